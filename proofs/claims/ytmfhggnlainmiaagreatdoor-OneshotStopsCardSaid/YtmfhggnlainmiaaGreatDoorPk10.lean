/- Part 10. -/
import Derived.Test.YtmfhggnlainmiaaGreatDoorPk09
set_option linter.unusedVariables false
set_option maxHeartbeats 16000000
namespace Go.Proofs.YtmfhggnlainmiaaGreatDoor
open Lib (hid)
section
open Go.RowKit
attribute [local go_sem] y9
def zj4 (g:Nat):Option Iv→Value
 | none=>.func (.func 145) #[.pointer (some ⟨g,0,none⟩)] #[]
 | some _=>.func (.func 260) #[.pointer (some ⟨g,0,none⟩)] #[]
def k8 (g ap lo:Nat) (last:Option Iv) (op:Bool):List Value:=
 [.int .u64 (ap:Int),.int .u64 (lo:Int),.int .u64 (((last.getD (0,0)).1:Nat):Int),.int .u64 (((last.getD (0,0)).2:Nat):Int),.bool last.isSome,.bool op,zj4 g last]
theorem zyb (ap:Nat) (w:World):Calls Tryz.prog 87 #[.int .u64 (ap:Int)] w fun e w'=>e=.returned (.pointer (some ⟨w.heap.size,0,none⟩))∧Row w' w.heap.size 230 (k8 w.heap.size ap 0 none false)∧Below w.heap.size w w':=by
 go_enter Tryz.func87,Tryz.ntmps87;go_wp2_with fail;go_ret;exact⟨rfl,y7 _ _ _,(Below.refl _ _).alloc (Nat.le_refl _) _⟩
theorem yaf (g d:Nat) (w:World):Calls Tryz.prog 145 #[.pointer (some ⟨g,0,none⟩),.int .u64 (d:Int)] w fun e w'=>e=.returned (.tuple #[.int .u64 (d:Int),.bool true])∧w=w':=by
 go_enter Tryz.func145,Tryz.ntmps145;go_wp2_with fail;go_ret2;exact⟨rfl,rfl⟩
theorem zlo {s:Nat} (h:s<18446744073709551616):zag s=.tuple #[.int .u64 (s:Int),.bool true]:=if_pos h
theorem zlp {s:Nat} (h:¬s<18446744073709551616):zag s=.tuple #[.int .u64 0,.bool false]:=if_neg h
theorem zj5 (l:List Nat) (W:World) (g n:Nat) (h:W.heap[g]?=some (.cells (zi l).toArray 64)) (hn:l.length=n) (h64:∀x∈l,x<18446744073709551616) (hl:n≤10) {v:Value} (hv:zag l.sum=v):
 Calls Tryz.prog 259 #[.slice (some ⟨g,0,none⟩) n n] W fun e w'=>e=.returned v∧Below W.heap.size W w':=
 (z9p _ n n l W (yq h rfl (by rw[zfu,hn];omega)) hn h64 hl).mono fun e w' ⟨h1,h2⟩=>⟨by rw[h1,hv],h2⟩
set_option maxRecDepth 20000 in
theorem yag (g ap lo d:Nat) (s:Iv) (op:Bool) (w:World) (h:Row w g 230 (k8 g ap lo (some s) op)) (hs:s.2<18446744073709551616) (ha:ap<18446744073709551616) (hd:d<18446744073709551616):
 Calls Tryz.prog 260 #[.pointer (some ⟨g,0,none⟩),.int .u64 (d:Int)] w fun e w'=>e=.returned (zag (s.2+1+ap+d))∧Below w.heap.size w w':=by
 obtain⟨s1,s2⟩:=s;simp only at hs;have q0:=h.cell 0 rfl;have q3:=h.cell 3 rfl;simp only[Option.getD_some] at q0 q3
 have h64:∀x∈[s2,1,ap,d],x<18446744073709551616:=fun x hx=>by
  simp only[List.mem_cons,List.not_mem_nil,or_false] at hx;rcases hx with rfl | rfl | rfl | rfl <;> first | assumption | omega
 have hsum:[s2,1,ap,d].sum=s2+1+ap+d:=by simp only[List.sum_cons,List.sum_nil,Nat.add_zero,Nat.add_assoc]
 have H64:=hid h64;clear h hs ha hd h64;by_cases h:s2+1+ap+d<18446744073709551616
 · have hv:zag [s2,1,ap,d].sum=.tuple #[.int .u64 ((s2+1+ap+d:Nat):Int),.bool true]:=by rw[hsum];exact zlo h
   have HS:=hid (fun W hW=>zj5 [s2,1,ap,d] W w.heap.size 4 hW rfl H64.out (by omega) hv);have Hv:=hid (zlo h);clear h hsum hv;generalize s2+1+ap+d=S at*;go_enter Tryz.func260,Tryz.ntmps260;go_wp2;go_region_with (go_at_call 259;refine(HS.out _ (by exact zh w _ _ rfl)).mono ?_;rintro e w1 ⟨rfl,hb1⟩)
   all_goals go_wp2
   all_goals go_ret2
   all_goals exact⟨by rw[Hv.out];rfl,((Below.refl _ _).alloc (Nat.le_refl _) _).drew.trans (hb1.mono (by simp))⟩
 · have hv:zag [s2,1,ap,d].sum=.tuple #[.int .u64 0,.bool false]:=by rw[hsum];exact zlp h
   have HS:=hid (fun W hW=>zj5 [s2,1,ap,d] W w.heap.size 4 hW rfl H64.out (by omega) hv);have Hv:=hid (zlp h);clear h hsum hv;generalize s2+1+ap+d=S at*;go_enter Tryz.func260,Tryz.ntmps260;go_wp2;go_region_with (go_at_call 259;refine(HS.out _ (by exact zh w _ _ rfl)).mono ?_;rintro e w1 ⟨rfl,hb1⟩)
   all_goals go_wp2
   all_goals go_ret2
   all_goals exact⟨by rw[Hv.out];rfl,((Below.refl _ _).alloc (Nat.le_refl _) _).drew.trans (hb1.mono (by simp))⟩
def yah (w:World) (g ap lo:Nat) (last:Option Iv) (r:Option Nat) (e:Ending) (w':World):Prop:=
 match r with
 | none=>e=.returned (.tuple #[.int .u64 0,.bool false])∧Row w' g 230 (k8 g ap lo last false)∧w.grownBy w' (some g)
 | some x=>e=.returned (.tuple #[.int .u64 (x:Int),.bool true])∧Row w' g 230 (k8 g ap x last true)∧w.grownBy w' (some g)
theorem zog {w w':World} {n:Nat} {r:Option Nat} (h:Below n w w') (hn:n=w.heap.size):w.grownBy w' r:=⟨h.os,h.tape,h.output,h.size,fun k hk _=>h.block k (by omega)⟩
set_option maxRecDepth 20000 in
theorem zsc (g ap lo d:Nat) (last:Option Iv) (w:World) (h:Row w g 230 (k8 g ap lo last false)) (hs:∀s,last=some s→s.2<18446744073709551616) (ha:ap<18446744073709551616) (hd:d<18446744073709551616):
 Calls Tryz.prog 210 #[.pointer (some ⟨g,0,none⟩),.int .u64 (d:Int)] w (yah w g ap lo last (loP (last.map (·.2)) ap d)):=by
 have H:=hid h;have q5:=h.cell 5 rfl;have q6:=h.cell 6 rfl;have z1:=h.fz 1;have z5:=h.fz 5;have q1:=h.cell 1 rfl
 cases last with
 | none=>
  have HF:=hid (Row.set (h.set 1 (.int .u64 (d:Int))) 5 (.bool true));simp only[zj4] at q6;clear h hs ha hd;go_enter Tryz.func210,Tryz.ntmps210;go_wp2_with fail;refine(yaf g d _).mono ?_;rintro e w' ⟨rfl,rfl⟩;go_wp2_with fail;go_ret2
  exact⟨rfl,HF.out,zw (qh _ _ _ _) (qh _ _ _ _)⟩
 | some s=>
  have HL:=hid (yag g ap lo d s false w h (hs s rfl) ha hd);simp only[zj4] at q6;clear hs ha hd;by_cases hc:s.2+1+ap+d<18446744073709551616
  · have Hr:=hid (show loP ((some s).map (·.2)) ap d=some (s.2+1+ap+d) from if_pos hc);rw[Hr.out];rw[zlo hc] at HL;clear hc;generalize s.2+1+ap+d=S at*;go_enter Tryz.func210,Tryz.ntmps210;go_wp2_with fail;refine HL.out.mono ?_;rintro e w1 ⟨rfl,hb1⟩;have h1:=h.later hb1;have p1:=h1.cell 1 rfl;have p5:=h1.cell 5 rfl;have y1:=h1.fz 1;have y5:=h1.fz 5;have HF:=hid (Row.set (h1.set 1 (.int .u64 (S:Int))) 5 (.bool true));have Hb1:=hid hb1;clear h1 hb1;go_wp2_with fail;go_ret2;exact⟨rfl,HF.out,zw (zog Hb1.out rfl) (zw (qh _ _ _ _) (qh _ _ _ _))⟩
  · have Hr:=hid (show loP ((some s).map (·.2)) ap d=none from if_neg hc);rw[Hr.out];rw[zlp hc] at HL;clear hc;go_enter Tryz.func210,Tryz.ntmps210;go_wp2_with fail;refine HL.out.mono ?_;rintro e w1 ⟨rfl,hb1⟩;have HF:=hid (h.later hb1);have Hb1:=hid hb1;clear hb1;go_wp2_with fail;go_ret2;exact⟨rfl,HF.out,zog Hb1.out rfl⟩
end
section
open Go.RowKit
def OwnB (w:World) (base:Nat) (v:Value) (l:List Nat):Prop:=w.ownsRow base 5 1 v (zq l).length (u8s (zq l))
theorem OwnB.below {w w':World} {base:Nat} {v:Value} {l:List Nat} (h:OwnB w base v l) (hb:Below w.heap.size w w'):OwnB w' base v l:=zm h hb
theorem zyc (base:Nat) (v:Value) (n:Nat) (xs:List Nat) (A:Option Addr) (c x y:Nat) (w:World) (hown:w.ownsRow base 64 1 v n (zi xs)) (hr:Rd w 1 A 2 (zi [x,y])) (hb:n+2≤1000000) (hbase:base≤w.heap.size):
 Calls Tryz.prog 199 #[v,.slice A 2 c] w fun e w'=>(∃v',e=.returned v'∧w'.ownsRow base 64 1 v' (n+2) (zi (xs++[x,y])))∧Below base w w':=by
 obtain⟨v',w',hrun,h1,h2⟩:=zhf base v n xs hown A 2 c [x,y] hr (by omega) hbase;have Hrun:=hid hrun;have H1:=hid h1;have Hb:=hid (Below.grown (B:=base) (Below.refl _ _) h2 hbase (fun k hk=>(hown.lt k hk).1));clear hrun h1 h2 hown hr;go_enter Tryz.func199,Tryz.ntmps199;go_wp2_with (at_builtin;refine qf _ _ 62 rfl rfl _ _ rfl rfl _ _ Hrun.out ?_);go_ret;exact⟨⟨_,rfl,H1.out⟩,Hb.out⟩
set_option maxRecDepth 20000 in
theorem zoh (a:Option Addr) (n c ap:Nat) (l:List Iv) (w:World) (hI:Ivs w a n c l) (hD:zdg l ap) (hn:n≤100000) (hap:ap≤1):
 Calls Tryz.prog 126 #[.slice a n c,.int .u64 ap] w fun e w'=>(∃v,e=.returned (.tuple #[v,.bool true])∧w'.ownsRow w.heap.size 64 1 v (2*n) (zi (zau l ap)))∧Below w.heap.size w w':=by
 have HI:=hid hI;have Hl:=hid hI.len;have HD:=hid hD;have Hlt:=hid hI.lt;have Hall:=hid (show zau l ap=zal l ap n from by rw[←hI.len];rfl);clear hI hD;go_enter Tryz.func126,Tryz.ntmps126;go_wp2;go_loopw [6,7,8,9,10,11,14] (fun v _ _ _ _ _ i wr=>∃d:Nat,d≤n∧i=.int .i64 d∧Below w.heap.size w wr∧Hid (wr.ownsRow w.heap.size 64 1 v (2*d) (zi (zal l ap d)))) (fun _ _ _ _ _ _ i _=>n - (intOf i).toNat)
 case atStart=>exact⟨0,by omega,rfl,Below.refl _ _,World.ownsRow_nil _ _ _ _⟩
 case round=>
  obtain⟨d,hd,rfl,hb,ho⟩:=hrel;have Hb:=hid hb;clear hb;by_cases hdn:d<n
  · obtain⟨bl,ol,rfl⟩:=HI.out.some (by omega);have Hc:=hid (fun w' (h:Below wr.heap.size wr w')=>HI.out.at hdn w' (Hb.out.trans (h.mono Hb.out.size)));have Hc':=hid (fun (h1:d - 1<n) w' (h:Below wr.heap.size wr w')=>HI.out.at h1 w' (Hb.out.trans (h.mono Hb.out.size)));obtain⟨g1,g2⟩:=HD.out d (by rw[Hl.out];exact hdn);have l1:=(Hlt.out _ (zbo (l:=l) (k:=d) (by rw[Hl.out];exact hdn)));have Hst:=hid (show zal l ap (d+1)=zal l ap d++[vz l ap d,(zb l d).2 - (zb l d).1] from rfl);have Hg:=hid (show vz l ap d=if d=0 then (zb l 0).1 else (zb l d).1 - (zb l (d - 1)).2 - 1 - ap from rfl);have hg0:d=0→zb l 0=zb l d:=fun h=>by rw[h]
    obtain⟨q1,q2⟩:=Hc.out _ (Below.refl _ _);have h0:(0:Int)≤d:=by omega
    have h04:(d:Int)<(n:Int):=by omega
    generalize vz l ap d=gp at*;generalize zb l 0=s0 at*;generalize zb l d=s at*;generalize zb l (d - 1)=p at*;obtain⟨sx,sy⟩:=s;obtain⟨px,py⟩:=p;simp only at q1 q2 Hc Hc' Hst Hg g1 g2 l1;have hd1:decide ((sy:Int)<(sx:Int))=false:=by rw[decide_eq_false_iff_not];omega
    have hd2:decide (sy<sx)=false:=by rw[decide_eq_false_iff_not];omega
    have hsz:IntKind.u64.wrap ((sy:Int) - (sx:Int))=((sy - sx:Nat):Int):=by rw[IntKind.wrap_u64];omega
    have hal:Below wr.heap.size wr (wr.alloc (.cells #[.int .u64 sx,.int .u64 sy] 135)):=(Below.refl _ _).alloc (Nat.le_refl _) _;have HX:=hid (zll wr (.int .u64 sx) (.int .u64 sy) 135);have Hal:=hid hal;generalize hsz2:sy - sx=sz at*;by_cases hd0:d=0
    · have hgp:gp=sx:=by rw[Hg.out,if_pos hd0,hg0 hd0]
      have hq1:decide (0<(d:Int))=false:=by rw[decide_eq_false_iff_not];omega
      have hq2:¬0<d:=by omega
      have Ho2:=hid (zm ho.out (show Below wr.heap.size wr ((wr.alloc (.cells #[.int .u64 sx,.int .u64 sy] 135)).alloc (.cells #[.int .u64 sx,.int .u64 sz] 64)) from Hal.out.alloc Hal.out.size _));have Hb2:=hid (Hb.out.trans ((show Below wr.heap.size wr ((wr.alloc (.cells #[.int .u64 sx,.int .u64 sy] 135)).alloc (.cells #[.int .u64 sx,.int .u64 sz] 64)) from Hal.out.alloc Hal.out.size _).mono Hb.out.size));rw[hgp] at Hst;clear hal hgp hg0 hsz2 Hg g1 g2 l1 Hc' Hc hd0;go_wp2_with fail;refine(zyc w.heap.size _ (2*d) (zal l ap d) (some ⟨wr.heap.size+1,0,none⟩) 2 sx sz _ Ho2.out (yq (zh _ _ _ (by simp)) rfl rfl) (by omega) Hb2.out.size).mono ?_;rintro e w4 ⟨⟨v',rfl,ho4⟩,hb4⟩;have Ho4:=hid ho4;have Hb4:=hid (Hb2.out.trans hb4);clear ho4 hb4;go_wp2;go_roundw
      case rel=>exact⟨d+1,by omega,by go_num,Hb4.out,by rw[Hst.out];exact Ho4.out⟩
      case measure=>simp[intOf];omega
    · have g2:=g2 (by omega);have hgp:gp=sx - py - 1 - ap:=by rw[Hg.out,if_neg hd0]
      have hq1:decide (0<(d:Int))=true:=by rw[decide_eq_true_iff];omega
      have hq2:0<d:=by omega
      have hsub:IntKind.i64.wrap ((d:Int) - 1)=((d - 1:Nat):Int):=by rw[IntKind.wrap_i64];omega
      have h01:(0:Int)≤((d - 1:Nat):Int):=by omega
      have h03:((d - 1:Nat):Int)<(n:Int):=by omega
      have Hc1:=hid (Hc'.out (by omega));have hBt:=hid (fun w=>zjv py sx w (by omega) l1.1);have hlt1:decide (((sx - py - 1:Nat):Int)<(ap:Int))=false:=by rw[decide_eq_false_iff_not];omega
      have hlt2:decide (sx - py - 1<ap)=false:=by rw[decide_eq_false_iff_not];omega
      have hsub2:IntKind.u64.wrap (((sx - py - 1:Nat):Int) - (ap:Int))=(gp:Int):=by rw[IntKind.wrap_u64,hgp];omega
      have HXc:=hid (fun w' (h:Below (wr.alloc (.cells #[.int .u64 sx,.int .u64 sy] 135)).heap.size (wr.alloc (.cells #[.int .u64 sx,.int .u64 sy] 135)) w')=>And.intro (Hc1.out w' (Hal.out.trans (h.mono Hal.out.size))) (HX.out w' h));clear hal hgp hg0 hsz2 Hg g1 g2 l1 Hc' Hc Hc1 hd0;generalize sx - py - 1=bt at*;generalize d - 1=d1 at*;have Hb1:=hid (Hb.out.trans (Hal.out.mono Hb.out.size));have Ho1:=hid (zm ho.out Hal.out);clear ho HX Hal;generalize hW:wr.alloc (.cells #[.int .u64 sx,.int .u64 sy] 135)=W at*;obtain⟨-,x1,x2⟩:=HXc.out _ (Below.refl _ _);go_wp2_with fail;refine jl (by kernel_rfl) (by kernel_rfl) ?_
      repeat (go_big_quiet_step ((intro hw;first
       | rfl
       | (obtain⟨⟨y1,y2⟩,y3,y4⟩:=HXc.out _ hw
          first
          | (go_at_call 198;refine(hBt.out _).mono ?_;rintro e w4 ⟨rfl,rfl⟩;exact⟨rfl,hw⟩)
          | (go_simp
             first | rfl | exact⟨rfl,hw⟩ | (trace_state;fail))))))
      refine wpQuiet_nil ?_;intro w3 hb3;obtain⟨-,x3,x4⟩:=HXc.out _ hb3;have hal3:Below w3.heap.size w3 (w3.alloc (.cells #[.int .u64 gp,.int .u64 sz] 64)):=(Below.refl _ _).alloc (Nat.le_refl _) _;have hb3w:=Hb1.out.trans (hb3.mono Hb1.out.size);have Hb3:=hid (hb3w.trans (hal3.mono hb3w.size));have Ho3:=hid (zm (zm Ho1.out hb3) hal3);clear hb3 hal3 hb3w x1 x2 HXc Ho1 Hb1;go_wp2_with fail;refine(zyc w.heap.size _ (2*d) (zal l ap d) (some ⟨w3.heap.size,0,none⟩) 2 gp sz _ Ho3.out (yq (zh _ _ _ rfl) rfl rfl) (by omega) Hb3.out.size).mono ?_;rintro e w4 ⟨⟨v',rfl,ho4⟩,hb4⟩;have Ho4:=hid ho4;have Hb4:=hid (Hb3.out.trans hb4);clear ho4 hb4;go_wp2;go_roundw
      case rel=>exact⟨d+1,by omega,by go_num,Hb4.out,by rw[Hst.out];exact Ho4.out⟩
      case measure=>simp[intOf];omega
  · obtain rfl:d=n:=by omega
    have Ho:=hid ho.out;rw[←Hall.out] at Ho;go_wp2;go_ret2;exact⟨⟨_,rfl,Ho.out⟩,Hb.out⟩
def ze9 (B:Value) (q E c p:Int) (m:Bool):List Value:=[B,.int .i64 q,.int .i64 E,.int .i64 c,.int .i64 p,.bool m]
def CurM (w:World) (g:Nat) (B:Value) (E:Nat):Except (Nat×Nat) Nat→Prop
 | .ok q=>Row w g 145 (ze9 B q E 0 0 false)
 | .error e=>∃q:Nat,Row w g 145 (ze9 B q E (e.1:Nat) (if e.1=0 then 0 else (e.2:Int)) (decide (e.1=0)))
theorem CurM.lt {w:World} {g:Nat} {B:Value} {E:Nat} {s:Except (Nat×Nat) Nat} (h:CurM w g B E s):g<w.heap.size:=by
 cases s with
 | ok q=>exact Row.lt h
 | error e=>obtain⟨q,h⟩:=h;exact h.lt
theorem CurM.later {w w':World} {g:Nat} {B:Value} {E:Nat} {s:Except (Nat×Nat) Nat} (h:CurM w g B E s) (hb:Below w.heap.size w w'):CurM w' g B E s:=by
 cases s with
 | ok q=>exact Row.later h hb
 | error e=>obtain⟨q,h⟩:=h;exact⟨q,h.later hb⟩
theorem zyd {l:List Nat} {E p:Nat} {y:Nat×Nat} (h:ze l E p=.ok y):jx (l.take E) p=.ok y:=by
 unfold ze at h;unfold jx;generalize yf ((l.take E).drop p) 0 0=s at*;obtain⟨a,b,c⟩:=s;rcases a with _ | _ | _ | a
 · cases h
 · exact h
 · cases h
 · cases h
theorem zap {l:List Nat} {E p x q:Nat} (hl:∀c∈l,c<256) (h:ze l E p=.ok (x,q)):p<q∧q≤l.length∧q≤E∧x<18446744073709551616∧q=p+(yp x).length:=by
 obtain⟨h1,h2,h3,-,h5⟩:=zgt (fun c hc=>hl c (List.mem_of_mem_take hc)) (zyd h);rw[List.length_take] at h2;exact⟨h1,by omega,by omega,h3,h5⟩
structure Rf (w:World) (a:Option Addr) (n cap E:Nat) (l:List Nat):Prop where
 b:Byts w a n cap l
 n:n≤2000000000000000000
 E:E≤4000000000000000000
theorem Rf.below {w w':World} {a:Option Addr} {n cap E:Nat} {l:List Nat} (h:Rf w a n cap E l) (hb:Below w.heap.size w w'):Rf w' a n cap E l:=⟨h.b.below hb,h.n,h.E⟩
structure Grw (w w':World) (v v':Value):Prop where
 g:w.grownBy w' v.ownBlock
 b:∀k,v'.ownBlock=some k→v.ownBlock=some k∨w.heap.size≤k
theorem Grw.refl (w:World) (v:Value):Grw w w v v:=⟨World.grownBy.refl _ _,fun k h=>.inl h⟩
theorem Grw.trans {w1 w2 w3:World} {v1 v2 v3:Value} (h:Grw w1 w2 v1 v2) (k:Grw w2 w3 v2 v3):Grw w1 w3 v1 v3:=by
 refine⟨⟨k.g.os.trans h.g.os,k.g.tape.trans h.g.tape,k.g.output.trans h.g.output,Nat.le_trans h.g.size k.g.size,fun i hi hn=>?_⟩,fun i hi=>?_⟩
 · rw[k.g.block i (Nat.lt_of_lt_of_le hi h.g.size) (fun e=>?_),h.g.block i hi hn];rcases h.b i e.symm with h' | h'
   · exact hn h'.symm
   · omega
 · rcases k.b i hi with h' | h'
   · exact h.b i h'
   · exact .inr (Nat.le_trans h.g.size h')
theorem Grw.below {w w1 w2:World} {v v1:Value} (h:Grw w w1 v v1) (hb:Below w1.heap.size w1 w2):Grw w w2 v v1:=
 ⟨⟨hb.os.trans h.g.os,hb.tape.trans h.g.tape,hb.output.trans h.g.output,Nat.le_trans h.g.size hb.size,fun i hi hn=>(hb.block i (Nat.lt_of_lt_of_le hi h.g.size)).trans (h.g.block i hi hn)⟩,h.b⟩
theorem Grw.alloc {w w1:World} {v v1:Value} (h:Grw w w1 v v1) (o:Obj):Grw w (w1.alloc o) v v1:=h.below ((Below.refl _ _).alloc (Nat.le_refl _) o)
theorem Grw.toBelow {w w':World} {v v':Value} {base:Nat} (h:Grw w w' v v') (hb:base≤w.heap.size) (hv:∀k,v.ownBlock=some k→base≤k):Below base w w':=(Below.refl _ _).grown h.g hb hv
theorem Grw.row {w w':World} {v v':Value} (h:Grw w w' v v') {base sz n:Nat} {e:TypeId} {u:Value} {xs:List Value} (ho:w.ownsRow base e sz u n xs) (hn:∀k,u.ownBlock=some k→v.ownBlock≠some k):w'.ownsRow base e sz u n xs:=
 vh ho fun k hk=>h.g.block k (ho.lt k hk).2 (fun e=>hn k hk e.symm)
end
section
open Go.RowKit Go.Maps
theorem yai (b:Bool):plainElem (H:=Value) Tryz.prog 4 (.bool b)=some (.lit (.bool b),[]):=plainElem_bool Tryz.underlying4 b
theorem wfI {x:Nat} (h:x<9223372036854775808):(Lit.int .i64 (x:Int)).wf=true:=by
 simp[Lit.wf,IntKind.min,IntKind.max,IntKind.signed,IntKind.bits];omega
theorem zye:Maps.Keyed Tryz.prog 3:=int_keyed Tryz.underlying3
theorem yaj {x:Nat} (h:x<9223372036854775808):keyOf Tryz.prog 3 (.int .i64 (x:Int))=some (.int .i64 (x:Int)):=keyOf_int_mk Tryz.underlying3 (wfI h)
theorem yak {r x:Nat} (h:r≠x):Lit.int .i64 (r:Int)≠Lit.int .i64 (x:Int):=fun e=>h (by cases e;rfl)
def UsedM (w:World) (U:Nat) (ix:List Nat):Prop:=
 ∃n D,w.ownsMap Tryz.prog 3 (plainElem (H:=Value) Tryz.prog 4) U n D∧n≤ix.length∧(∀i:Nat,Maps.has D (.int .i64 (i:Int))=decide (i∈ix))∧∀N,(∀i∈ix,i<N)→Maps.size D=za5 ix N
theorem UsedM.same {w w':World} {U:Nat} {ix:List Nat} (h:UsedM w U ix) (hk:w'.heap[U]?=w.heap[U]?):UsedM w' U ix:=by
 obtain⟨n,D,⟨es,clock,h1,h2⟩,h3⟩:=h;exact⟨n,D,⟨es,clock,hk.trans h1,h2⟩,h3⟩
theorem UsedM.notT {w:World} {U:Nat} {ix:List Nat} (h:UsedM w U ix):NotT w U:=by
 obtain⟨n,D,⟨es,clock,h1,h2⟩,h3⟩:=h;exact z96 h1
theorem UsedM.lt {w:World} {U:Nat} {ix:List Nat} (h:UsedM w U ix):U<w.heap.size:=by
 obtain⟨n,D,⟨es,clock,h1,h2⟩,h3⟩:=h;exact(Array.getElem?_eq_some_iff.1 h1).1
theorem UsedM.ne {w:World} {U g:Nat} {ix:List Nat} {C:Array Value} {T:TypeId} {fr:Nat×Nat} (h:UsedM w U ix) (hg:w.heap[g]?=some (.cells C T fr)):U≠g:=by
 obtain⟨n,D,⟨es,clock,h1,h2⟩,h3⟩:=h;intro e;subst e;rw[h1] at hg;injection hg with hg;cases hg
theorem UsedM.put {w:World} {U:Nat} {ix:List Nat} (h:UsedM w U ix) {i:Nat} (hi:i<9223372036854775808) (hl:ix.length<9223372036854775807):
 ∃w',(Instr.mapUpdate 149 (.map (some U)) (.int .i64 (i:Int)) (.bool true)).run Tryz.prog w=.ok () w'∧UsedM w' U (ix++[i])∧w.grownBy w' (some U):=by
 obtain⟨n,D,h1,h2,h3,h4⟩:=h;obtain⟨w',hrun,r1,r2⟩:=h1.update zye Tryz.underlying149 (by unfold maxLen;omega) (yaj hi) (yai true);have hT:=h1.tidy zye;refine⟨w',hrun,⟨n+1,_,r1,by simp;omega,fun j=>?_,fun N hN=>?_⟩,r2⟩
 · by_cases e:j=i
   · subst e;rw[has_put_same hT.isMap (show WideAt.IsKeyLit (.int .i64 (j:Int)) from trivial)];simp
   · rw[has_put_other (yak e),h3 j];simp[e]
 · have hiN:i<N:=hN i (by simp);rw[size_put hT,h3 i,h4 N (fun j hj=>hN j (by simp[hj])),zx2 hiN];by_cases e:i∈ix
   · simp[e]
   · simp[e]
theorem UsedM.len {w:World} {U:Nat} {ix:List Nat} (h:UsedM w U ix) (N:Nat) (hN:∀i∈ix,i<N) (ty:TypeId):(Builtin.len_ #[149] ty #[.map (some U)]).run Tryz.prog w=.ok (.int .i64 ((za5 ix N:Nat):Int)) w:=by
 obtain⟨n,D,h1,h2,h3,h4⟩:=h;rw[h1.len Tryz.underlying149 ty,h4 N hN]
theorem zyf {w:World} {ops:Array Oper} {rest:List Oper} {o:Oper} {a:Act} {Q:Exit→Act→World→Prop} (hg:o.guard=none) (m x v:Operand) (hop:o.op=Op.mapUpdate 149 m x v)
 (U:Nat) (ix:List Nat) (h:UsedM w U ix) (i:Nat) (hi:i<9223372036854775808) (hl:ix.length<9223372036854775807) (hm:a.eval m=.map (some U)) (hx:a.eval x=.int .i64 (i:Int)) (hv:a.eval v=.bool true)
 (hK:∀w',UsedM w' U (ix++[i])→w.grownBy w' (some U)→wpList Tryz.prog ops Q rest (a.put o.dst undef) w'):wpList Tryz.prog ops Q (o :: rest) a w:=by
 refine wpList_plain hg fun K' hK'=>?_
 obtain⟨w',hrun,r1,r2⟩:=h.put hi hl;unfold Oper.wp;simp[execOp,hop,hm,hx,hv,hrun,Result.andThen];exact hK' _ _ (hK w' r1 r2)
end
section
open Go.RowKit
def zav (T:TypeId):Prop:=jw T∨T=230∨T=347∨T=155∨T=236∨T=241
structure BelT (base:Nat) (w w':World):Prop where
 bel:Below base w w'
 typ:∀(k:Nat) (C:Array Value) (T:TypeId) (fr:Nat×Nat),w.heap[k]?=some (.cells C T fr)→¬zav T→w'.heap[k]?=w.heap[k]?
def OkR (w:World) (g:Nat):Prop:=∀(C:Array Value) (T:TypeId) (fr:Nat×Nat),w.heap[g]?=some (.cells C T fr)→zav T
theorem OkR.cells {w:World} {g:Nat} {C:Array Value} {T:TypeId} {fr:Nat×Nat} (h:w.heap[g]?=some (.cells C T fr)) (hT:zav T):OkR w g:=by
 intro C' T' fr' h';rw[h] at h';injection h' with h';injection h' with _ h' _;subst h';exact hT
theorem zyg:zav 135:=.inl (.inl rfl)
theorem zsd:zav 137:=.inl (.inr (.inl rfl))
theorem zyh:zav 127:=.inl (.inr (.inr rfl))
theorem zoi:zav 230:=.inr (.inl rfl)
theorem zlq:zav 347:=.inr (.inr (.inl rfl))
theorem zlr:zav 155:=.inr (.inr (.inr (.inl rfl)))
theorem zse:zav 236:=.inr (.inr (.inr (.inr (.inl rfl))))
theorem zsf:zav 241:=.inr (.inr (.inr (.inr (.inr rfl))))
theorem Row.okR {w:World} {g:Nat} {T:TypeId} {C:List Value} (h:Row w g T C) (hT:zav T):OkR w g:=by
 intro C' T' fr h';rw[show w.heap[g]?=_ from h] at h';injection h' with h';injection h' with _ h' _;subst h';exact hT
theorem OkR.map {w:World} {g c:Nat} {es:Array MapEntry} (h:w.heap[g]?=some (.map es c)):OkR w g:=fun C T fr h'=>by
 rw[h] at h';injection h' with h';cases h'
theorem OkR.own {w:World} {base sz n:Nat} {e:TypeId} {V:Value} {xs:List Value} (ho:w.ownsRow base e sz V n xs) (he:zav e):∀k,V.ownBlock=some k→OkR w k:=by
 intro k hk;rcases ho.2 with ⟨rfl,_⟩ | ⟨b,cap,cur,rfl,_,hh,_⟩
 · cases hk
 · have e2:b=k:=by simpa [Value.ownBlock] using hk
   subst e2;intro C T fr h';rw[hh] at h';injection h' with h';injection h' with _ h' _;subst h';exact he
theorem OkR.back {n g:Nat} {w w1:World} (h:BelT n w w1) (hk:OkR w1 g):OkR w g:=fun C T fr hc=>by
 by_cases hT:zav T
 · exact hT
 · exact hk C T fr ((h.typ g C T fr hc hT).trans hc)
theorem BelT.refl (base:Nat) (w:World):BelT base w w:=⟨Below.refl _ _,fun _ _ _ _ _ _=>rfl⟩
theorem BelT.size {base:Nat} {w w':World} (h:BelT base w w'):w.heap.size≤w'.heap.size:=h.bel.size
theorem BelT.trans {base:Nat} {a b c:World} (h:BelT base a b) (k:BelT base b c):BelT base a c:=
 ⟨h.bel.trans k.bel,fun i C T fr hi hT=>(k.typ i C T fr ((h.typ i C T fr hi hT).trans hi) hT).trans (h.typ i C T fr hi hT)⟩
theorem BelT.mono {base b:Nat} {w w':World} (h:BelT base w w') (hb:b≤base):BelT b w w':=⟨h.bel.mono hb,h.typ⟩
theorem BelT.of_below {w w':World} (h:Below w.heap.size w w'):BelT w.heap.size w w':=⟨h,fun k C T fr hk _=>h.block k (Array.getElem?_eq_some_iff.1 hk).1⟩
theorem BelT.to {n:Nat} {w w':World} (h:Below w.heap.size w w') (hn:n≤w.heap.size):BelT n w w':=(BelT.of_below h).mono hn
theorem BelT.alloc {base:Nat} {w w1:World} (h:BelT base w w1) (hn:base≤w1.heap.size) (o:Obj):BelT base w (w1.alloc o):=
 h.trans (BelT.to ((Below.refl _ _).alloc (Nat.le_refl _) o) hn)
theorem BelT.drew {base:Nat} {w w1:World} (h:BelT base w w1):BelT base w w1.drew:=⟨h.bel.drew,h.typ⟩
theorem zfa {base:Nat} {w w1:World} (h:BelT base w w1) (k:Nat):BelT base w (w1.drewN k):=⟨z7 h.bel k,h.typ⟩
theorem BelT.setCell {base:Nat} {w w1:World} (h:BelT base w w1) {p:Addr} (hp:base≤p.block) (v:Value) (hok:OkR w p.block:=by assumption):BelT base w (w1.setCell p v):=
 ⟨h.bel.setCell hp v,fun k C T fr hk hT=>(heap_setCell_other w1 p k v (fun e=>hT (hok C T fr (e ▸ hk)))).trans (h.typ k C T fr hk hT)⟩
theorem BelT.grown {base:Nat} {w w1 w2:World} {row:Option Nat} (h:BelT base w w1) (hg:w1.grownBy w2 row) (hn:base≤w1.heap.size) (hk:∀k,row=some k→base≤k) (hok:∀k,row=some k→OkR w k):BelT base w w2:=
 ⟨h.bel.grown hg hn hk,fun k C T fr hc hT=>(hg.block k (Nat.lt_of_lt_of_le (Array.getElem?_eq_some_iff.1 hc).1 h.size) (fun e=>hT (hok k e.symm C T fr hc))).trans (h.typ k C T fr hc hT)⟩
theorem zec {w:World} {g:Nat} (h:OkR w g):∀k,some g=some k→OkR w k:=fun k e=>by injection e with e;exact e ▸ h
theorem CurM.other {w:World} {g R i:Nat} {B:Value} {E:Nat} {s:Except (Nat×Nat) Nat} (h:CurM w g B E s) (ha:R≠g) (v:Value):CurM (w.setCell ⟨R,i,none⟩ v) g B E s:=by
 cases s with
 | ok q=>exact Row.other h (a:=⟨R,i,none⟩) (fun e=>ha e.symm) v
 | error e=>obtain⟨q,h⟩:=h;exact⟨q,Row.other h (a:=⟨R,i,none⟩) (fun e=>ha e.symm) v⟩
def zgu:Nat→Value:=fun _=>.slice none 0 0
def KV (w:World) (base:Nat) (K:Value) (vs:List Vec):Prop:=
 ∃Y,w.ownsRow base 127 2 K vs.length (zb9 vs.length zgu Y)∧∀i,i<vs.length→EnSl w 0 (Y i) (kd vs i)
theorem KV.steady {w w':World} {base:Nat} {K:Value} {vs:List Vec} (h:KV w base K vs) (hs:Steady 0 jw w w'):KV w' base K vs:=by
 obtain⟨Y,h1,h2⟩:=h;exact⟨Y,zd8 h1 hs (.inr (.inr rfl)),fun i hi=>(h2 i hi).steady hs (.inl rfl) (.inr (.inl rfl))⟩
theorem KV.grown {w w':World} {base g:Nat} {K:Value} {vs:List Vec} (h:KV w base K vs) (hN:NotT w g) (hg:w.grownBy w' (some g)):KV w' base K vs:=h.steady (zhm hN (Nat.zero_le _) hg)
theorem KV.later {w w':World} {base:Nat} {K:Value} {vs:List Vec} (h:KV w base K vs) (hb:Below w.heap.size w w'):KV w' base K vs:=h.steady (.of_below hb)
theorem KV.below {w w':World} {base n:Nat} {K:Value} {vs:List Vec} (h:KV w base K vs) (hn:n=w.heap.size) (hb:Below n w w'):KV w' base K vs:=h.later (hn ▸ hb)
theorem yal {vs:List Vec} {v:Vec} {i:Nat} (h:i<vs.length):kd (vs++[v]) i=kd vs i:=by simp[kd,List.getElem?_append_left h]
theorem yam (vs:List Vec) (v:Vec):kd (vs++[v]) vs.length=v:=by simp[kd]
theorem yan {n:Nat} (X Y:Nat→Value) (y:Value):zb9 n X (upd Y n y)=zb9 n X Y:=by
 unfold zb9;congr 1;refine List.map_congr_left fun i hi=>?_
 rw[zdh _ _ (Nat.ne_of_lt (List.mem_range.1 hi))]
theorem KV.snoc {w:World} {base:Nat} {K:Value} {vs:List Vec} (hK:KV w base K vs) {y:Value} {v:Vec} (hv:EnSl w 0 y v) (A:Option Addr) (c:Nat) (hr:Rd w 2 A 1 [.slice none 0 0,y]) (hb:vs.length+1≤1000000000000) (hbase:base≤w.heap.size):
 ∃K' w',(Builtin.append_ #[48,48] 48 #[K,.slice A 1 c]).run Tryz.prog w=.ok K' w'∧KV w' base K' (vs++[v])∧w.grownBy w' K.ownBlock∧(∀k,K.ownBlock=some k→base≤k):=by
 obtain⟨Y,ho,hY⟩:=hK
 have hy1:y.oneCell'=true:=by
  obtain⟨a,n,d,rfl,-⟩:=hv
  rfl
 obtain⟨K',w',h1,h2,h3⟩:=zcf base _ _ _ _ 2 48 Tryz.underlying48 Tryz.info_frg rfl (by omega) K vs.length _ ho A 1 c _ hr (by
  intro u hu;simp only[List.mem_cons,List.not_mem_nil,or_false] at hu;rcases hu with rfl | rfl
  · rfl
  · exact hy1) (by unfold maxLen;omega) (by omega) hbase
 have hs:Steady 0 zb8 w w':=(Steady.grown (base:=base) ho h3 (by rintro(h | h) <;> cases h)).lower (Nat.zero_le _);refine⟨K',w',h1,⟨upd Y vs.length y,?_,fun i hi=>?_⟩,h3,fun k hk=>(ho.lt k hk).1⟩
 · rw[List.length_append];show w'.ownsRow base 127 2 K' (vs.length+1) (zb9 (vs.length+1) zgu (upd Y vs.length y));rw[z90,yan,zeq];exact h2
 · by_cases e:i=vs.length
   · subst e;rw[zeq,yam];exact hv.steady hs (.inl rfl) (.inr rfl)
   · have hi':i<vs.length:=by simp at hi;omega
     rw[zdh _ _ e,yal hi'];exact(hY i hi').steady hs (.inl rfl) (.inr rfl)
theorem KV.at {w:World} {base:Nat} {K:Value} {vs:List Vec} (hK:KV w base K vs) {i:Nat} (hi:i<vs.length):∃g cap,K=.slice (some ⟨g,0,none⟩) vs.length cap∧base≤g∧g<w.heap.size∧∃y,w.cell? ⟨g,i*2+1,none⟩=some y∧w.cell? ⟨g,i*2,none⟩=some (.slice none 0 0)∧EnSl w 0 y (kd vs i):=by
 obtain⟨Y,ho,hY⟩:=hK;obtain⟨g,cap,rfl,hg,hgl,-,-⟩:=zcz ho (by omega);obtain⟨e1,e2⟩:=zgp hi zgu Y;have c1:=ho.cells (g:=g) rfl _ _ e1;have c2:=ho.cells (g:=g) rfl _ _ e2;rw[qg,Nat.zero_add] at c1 c2;exact⟨g,cap,rfl,hg,hgl,Y i,c2,c1,hY i hi⟩
def SegM (w:World) (base:Nat) (K:Value) (vs:List Vec) (l:List Iv) (ix:List Nat):Prop:=
 ∃w2 X Y,base≤w2.heap.size∧Steady 0 zb8 w2 w∧(∀i,i<vs.length→EnSl w2 0 (Y i) (kd vs i))∧w.ownsRow base 127 2 K vs.length (zb9 vs.length X Y)∧
  (∀i,i<vs.length→w.ownsRow w2.heap.size 135 2 (X i) (itN l ix i).length (ivC (itN l ix i)))∧∀i,i<vs.length→∀j,j<vs.length→i≠j→∀b,(X i).ownBlock=some b→(X j).ownBlock≠some b
theorem KV.seg {w:World} {base:Nat} {K:Value} {vs:List Vec} (h:KV w base K vs) (hb:base≤w.heap.size):SegM w base K vs [] []:=by
 obtain⟨Y,h1,h2⟩:=h;exact⟨w,zgu,Y,hb,⟨Nat.le_refl _,fun _ _ _=>rfl⟩,h2,h1,fun i hi=>World.ownsRow_nil _ _ _ _,fun i hi j hj _ b hb=>by simp[zgu,Value.ownBlock] at hb⟩
theorem SegM.steady {w w':World} {base:Nat} {K:Value} {vs:List Vec} {l:List Iv} {ix:List Nat} (h:SegM w base K vs l ix) (hs:Steady 0 jw w w'):SegM w' base K vs l ix:=by
 obtain⟨w2,X,Y,h1,h2,h3,h4,h5,h6⟩:=h;exact⟨w2,X,Y,h1,h2.trans (hs.weak fun T hT=>hT.imp id .inl),h3,zd8 h4 hs (.inr (.inr rfl)),fun i hi=>zd8 (h5 i hi) hs (.inl rfl),h6⟩
theorem SegM.grown {w w':World} {base g:Nat} {K:Value} {vs:List Vec} {l:List Iv} {ix:List Nat} (h:SegM w base K vs l ix) (hN:NotT w g) (hg:w.grownBy w' (some g)):SegM w' base K vs l ix:=h.steady (zhm hN (Nat.zero_le _) hg)
theorem SegM.later {w w':World} {base:Nat} {K:Value} {vs:List Vec} {l:List Iv} {ix:List Nat} (h:SegM w base K vs l ix) (hb:Below w.heap.size w w'):SegM w' base K vs l ix:=h.steady (.of_below hb)
theorem SegM.at {w:World} {base:Nat} {K:Value} {vs:List Vec} {l:List Iv} {ix:List Nat} (h:SegM w base K vs l ix) {i:Nat} (hi:i<vs.length):∃g cap,K=.slice (some ⟨g,0,none⟩) vs.length cap∧base≤g∧g<w.heap.size∧(∀j,w.frozen? ⟨g,j,none⟩=false)∧∃x,w.cell? ⟨g,i*2,none⟩=some x:=by
 obtain⟨w2,X,Y,h1,h2,h3,h4,h5,h6⟩:=h;obtain⟨g,cap,rfl,hg,hgl,-,-⟩:=zcz h4 (by omega);have c1:=h4.cells (g:=g) rfl _ _ (zgp hi X Y).1;rw[qg,Nat.zero_add] at c1;exact⟨g,cap,rfl,hg,hgl,fun j=>h4.frozenAt j,X i,c1⟩
theorem SegM.put {w:World} {base g cap:Nat} {vs:List Vec} {l:List Iv} {ix:List Nat} (h:SegM w base (.slice (some ⟨g,0,none⟩) vs.length cap) vs l ix) (hli:ix.length=l.length) {i:Nat} (hi:i<vs.length) {S:Value} (hS:w.cell? ⟨g,i*2,none⟩=some S) (s:Iv)
 (W:World) (hW:Below w.heap.size w W) (A:Option Addr) (c:Nat) (hr:Rd W 2 A 1 (ivC [s])) (hb:l.length+1≤1000000000000):
 ∃S' w',(Builtin.append_ #[123,123] 123 #[S,.slice A 1 c]).run Tryz.prog W=.ok S' w'∧(∃gS m cS,S'=.slice (some ⟨gS,0,none⟩) m cS)∧W.grownBy w' S.ownBlock∧(∀k,S.ownBlock=some k→base≤k∧∃C fr,W.heap[k]?=some (.cells C 135 fr))∧w'.cell? ⟨g,i*2,none⟩=some S∧w'.frozen? ⟨g,i*2,none⟩=false∧
  ∀w2,w'.grownBy w2 none→SegM (w2.setCell ⟨g,i*2,none⟩ S') base (.slice (some ⟨g,0,none⟩) vs.length cap) vs (l++[s]) (ix++[i]):=by
 obtain⟨wz,X,Y,h1,h2,h3,h4,h5,h6⟩:=h
 have e0:X i=S:=by
  have c1:=h4.cells (g:=g) rfl _ _ (zgp hi X Y).1;rw[qg,Nat.zero_add,hS] at c1;injection c1 with c1;exact c1.symm
 subst e0;have k4:=zm h4 hW;have k5:=fun j hj=>zm (h5 j hj) hW
 have hz:wz.heap.size≤W.heap.size:=Nat.le_trans h2.size hW.size;have hit:(itN l ix i).length≤l.length:=zr0 _ _ _ _;obtain⟨S',w',hrun,ho,hg,hat⟩:=zob wz.heap.size (X i) _ _ (k5 i hi) A c s hr (by omega) hz
 have hty:∀k,(X i).ownBlock=some k→∃C fr,W.heap[k]?=some (.cells C 135 fr):=fun k hk=>by
  rcases(k5 i hi).2 with ⟨e,_⟩ | ⟨b,cap',cur,e,_,hh,_⟩
  · rw[e] at hk;cases hk
  · have e':b=k:=by rw[e] at hk;simpa [Value.ownBlock] using hk
    subst e';exact⟨_,_,hh⟩
 have hne:(X i).ownBlock≠some g:=fun e=>zeb k4 (k5 i hi) (by decide) g rfl e
 have e4:w'.ownsRow base 127 2 (.slice (some ⟨g,0,none⟩) vs.length cap) vs.length (zb9 vs.length X Y):=vh k4 fun k hk=>by
  have e:g=k:=by simpa [Value.ownBlock] using hk
  subst e;exact hg.block g (k4.lt g rfl).2 fun e=>hne e.symm
 have hcell:w'.cell? ⟨g,i*2,none⟩=some (X i):=by
  have c1:=e4.cells (g:=g) rfl _ _ (zgp hi X Y).1;rwa [qg,Nat.zero_add] at c1
 obtain⟨gS,cS,eS,-⟩:=zcz ho (Nat.succ_pos _);refine⟨S',w',hrun,⟨gS,_,cS,eS⟩,hg,fun k hk=>⟨Nat.le_trans h1 ((k5 i hi).lt k hk).1,hty k hk⟩,hcell,e4.frozenAt _,fun w2 hw2=>?_⟩;have f4:=vh (w':=w2) e4 fun k hk=>hw2.block k (e4.lt k hk).2 (by simp)
 have fS:=vh (w':=w2) ho fun k hk=>hw2.block k (ho.lt k hk).2 (by simp)
 obtain⟨p1,p2⟩:=f4.stored (i*2) S'
 have hrow:∃C fr,w2.heap[g]?=some (.cells C 127 fr):=by
  rcases f4.2 with ⟨h',_⟩ | ⟨g',cap',cur,h',_,hh,_⟩
  · cases h'
  · cases h';exact⟨_,_,hh⟩
 obtain⟨C,fr,hrow⟩:=hrow;have hset:∀k,k≠g→k<w2.heap.size→(w2.setCell ⟨g,i*2,none⟩ S').heap[k]?=w2.heap[k]?:=fun k hk hl=>p2.block k hl fun e=>hk (by injection e)
 have hst:Steady 0 zb8 w2 (w2.setCell ⟨g,i*2,none⟩ S'):=.setCell hrow (Nat.zero_le _) (by rintro(h | h) <;> cases h)
 have hsWw:Steady 0 zb8 wz w':=⟨Nat.le_trans hz hg.size,fun k hk hp=>by
  have hkW:k<W.heap.size:=Nat.lt_of_lt_of_le hk hz;have hkw:=Nat.lt_of_lt_of_le hk h2.size;rw[hg.block k hkW fun e=>by have:=((k5 i hi).lt k e.symm).1;omega,hW.block k hkw];exact h2.row k hk hp⟩
 refine⟨wz,upd X i S',Y,h1,(hsWw.trans (⟨hw2.size,fun k hk _=>hw2.block k hk (by simp)⟩:Steady 0 zb8 w' w2)).trans hst,h3,?_,fun j hj=>?_,fun a ha b hb hab x hx=>?_⟩
 · rw[←zr1 hi];exact p1
 · by_cases e:j=i
   · subst e;rw[zeq,zof hli,if_pos rfl,List.length_append]
     exact vh fS fun k hk=>hset k (fun e=>by
      subst e;exact zeb f4 fS (by decide) k rfl hk) (fS.lt k hk).2
   · rw[zdh _ _ e,zof hli,if_neg (fun h=>e h.symm),List.append_nil];refine vh (h5 j hj) fun k hk=>?_
     have hl5:=(h5 j hj).lt k hk;have hkW:k<W.heap.size:=Nat.lt_of_lt_of_le hl5.2 hW.size;rw[hset k (fun e'=>by subst e';exact zeb h4 (h5 j hj) (by decide) k rfl hk) (Nat.lt_of_lt_of_le hkW (Nat.le_trans hg.size hw2.size)),hw2.block k (Nat.lt_of_lt_of_le hkW hg.size) (by simp),hg.block k hkW (fun e'=>h6 j hj i hi e k hk e'.symm),hW.block k hl5.2]
 · by_cases ea:a=i
   · subst ea;rw[zeq] at hx;rw[zdh _ _ (fun e=>hab e.symm)];intro hy;rcases hat x hx with h' | h'
     · exact h6 a ha b hb hab x h' hy
     · have:=((h5 b hb).lt x hy).2;have:=hW.size;omega
   · rw[zdh _ _ ea] at hx;by_cases eb:b=i
     · subst eb;rw[zeq];intro hy;rcases hat x hy with h' | h'
       · exact h6 a ha b hb hab x hx h'
       · have:=((h5 a ha).lt x hx).2;have:=hW.size;omega
     · rw[zdh _ _ eb];exact h6 a ha b hb hab x hx
theorem SegM.frags {w:World} {base:Nat} {K:Value} {vs:List Vec} {l:List Iv} {ix:List Nat} (h:SegM w base K vs l ix) (hl:zo l):∃a c,K=.slice a vs.length c∧Frags w a vs.length c (qj vs l ix):=by
 obtain⟨wz,X,Y,h1,h2,h3,h4,h5,h6⟩:=h;have hlen:(qj vs l ix).length=vs.length:=by rw[zgr];simp
 have hnth:∀i,i<vs.length→za (qj vs l ix) i=(itN l ix i,kd vs i):=fun i hi=>by
  rw[qm (by rw[hlen];exact hi)];simp[zgr]
 rcases Nat.eq_zero_or_pos vs.length with h0 | h0
 · obtain⟨a,c,rfl⟩:=jh h4;rcases h4.2 with ⟨h',-⟩ | ⟨g,cap,cur,h',hg,hh,hnc,hcm,_⟩
   · injection h' with e1 _ e3;subst e1 e3;refine⟨none,0,rfl,?_⟩;rw[h0] at hlen ⊢;rw[List.length_eq_zero_iff.1 hlen];exact zhj w
   · injection h' with e1 _ e3;subst e1 e3;exact⟨_,_,rfl,hlen,hnc,by unfold maxLen at hcm;omega,(by intro e;cases e),fun hn=>by omega⟩
 · obtain⟨g,cap,rfl,hg,hgl,hnc,hcm⟩:=zcz h4 h0;refine⟨_,_,rfl,hlen,hnc,by unfold maxLen at hcm;omega,(by intro e;cases e),fun _=>⟨g,0,rfl,fun i hi=>?_⟩⟩;obtain⟨e1,e2⟩:=zgp hi X Y;have c1:=h4.cells (g:=g) rfl _ _ e1;have c2:=h4.cells (g:=g) rfl _ _ e2;rw[qg] at c1 c2;rw[hnth i hi];obtain⟨a,c,e,hI⟩:=za2 (h5 i hi) (fun t ht=>hl t (zxu (Nat.le_refl _) ht));obtain⟨a',m',c',e',hE⟩:=(h3 i hi).steady h2 (.inl rfl) (.inr rfl);rw[e] at c1;rw[e'] at c2;exact⟨⟨a,_,c,c1,hI⟩,⟨a',m',c',by rw[Nat.add_assoc];exact c2,hE.ents⟩⟩
theorem SegM.len {w:World} {base:Nat} {K:Value} {vs:List Vec} {l:List Iv} {ix:List Nat} (h:SegM w base K vs l ix):∃a c,K=.slice a vs.length c:=by
 obtain⟨wz,X,Y,h1,h2,h3,h4,h5,h6⟩:=h;exact jh h4
theorem KV.len {w:World} {base:Nat} {K:Value} {vs:List Vec} (h:KV w base K vs):∃a c,K=.slice a vs.length c:=by
 obtain⟨Y,h4,-⟩:=h;exact jh h4
theorem OwnV.enSl {w:World} {base:Nat} {V:Value} {v:Vec} (h:OwnV w base V v) (hl:LtV v):EnSl w 0 V v:=by
 obtain⟨a,c,rfl,hE⟩:=h.entsT (base':=0) hl;exact⟨a,_,c,rfl,hE⟩
end
section
open Go.RowKit
attribute [local go_sem] y9
def zls (w:World) (g ap lo d:Nat) (last:Option Iv) (e:Ending) (w':World):Prop:=
 if lo+d<18446744073709551616 then e=.returned (.tuple #[ivV (lo,lo+d),.bool true])∧Row w' g 230 (k8 g ap lo (some (lo,lo+d)) false)∧w.grownBy w' (some g)
 else e=.returned (.tuple #[ivV (0,0),.bool false])∧Row w' g 230 (k8 g ap lo last true)∧w.grownBy w' (some g)
set_option maxRecDepth 20000 in
theorem zyi (g ap lo d:Nat) (last:Option Iv) (w:World) (h:Row w g 230 (k8 g ap lo last true)) (hlo:lo<18446744073709551616) (hd:d<18446744073709551616):
 Calls Tryz.prog 211 #[.pointer (some ⟨g,0,none⟩),.int .u64 (d:Int)] w (zls w g ap lo d last):=by
 have q1:=fun o=>(h.later ((Below.refl _ _).alloc (Nat.le_refl _) o)).cell 1 rfl
 have q5:=fun o=>(h.later ((Below.refl _ _).alloc (Nat.le_refl _) o)).cell 5 rfl
 have h64:∀x∈[lo,d],x<18446744073709551616:=fun x hx=>by
  simp only[List.mem_cons,List.not_mem_nil,or_false] at hx;rcases hx with rfl | rfl <;> assumption
 have hsum:[lo,d].sum=lo+d:=by simp only[List.sum_cons,List.sum_nil,Nat.add_zero]
 have H:=hid h;have H64:=hid h64;have Hal:Below w.heap.size w (w.alloc (.cells #[.int .u64 0,.int .u64 0] 135)):=(Below.refl _ _).alloc (Nat.le_refl _) _;have Ha:=hid Hal;have HX:=hid (y7 w 135 [.int .u64 0,.int .u64 0]);clear hlo hd h64 Hal;by_cases hc:lo+d<18446744073709551616
 · have Hr:=hid (fun e w'=>show zls w g ap lo d last e w'=_ from if_pos hc);have hv:zag [lo,d].sum=.tuple #[.int .u64 ((lo+d:Nat):Int),.bool true]:=by rw[hsum];exact zlo hc
   have HS:=hid (fun W g hW=>zj5 [lo,d] W g 2 hW rfl H64.out (by omega) hv);clear hc hsum hv;generalize lo+d=S at*;go_enter Tryz.func211,Tryz.ntmps211;go_wp2_with fail;refine(HS.out _ (w.heap.size+1) (by exact zh _ _ _ (by simp))).mono ?_;rintro e w1 ⟨rfl,hb1⟩;have hb2:=(Below.refl _ _).alloc (Nat.le_refl _) _ |>.trans (hb1.mono (by simp))
   have hX:=HX.out.later hb2;have x0:=hX.cell 0 rfl;have x1:=hX.cell 1 rfl;have y0:=hX.fz 0;have y1:=hX.fz 1;have h1:=H.out.later (Ha.out.trans (hb2.mono (by simp)));have p1:=h1.cell 1 rfl;have p2:=h1.cell 2 rfl;have p3:=h1.cell 3 rfl;have p4:=h1.cell 4 rfl;have p5:=h1.cell 5 rfl;have p6:=h1.cell 6 rfl;have z2:=h1.fz 2;have z3:=h1.fz 3;have z4:=h1.fz 4;have z5:=h1.fz 5;have z6:=h1.fz 6;have hne:¬g=w.heap.size:=by have:=H.out.lt;omega
   have HF:=hid (show Row (((((w1.setCell ⟨g,2,none⟩ (.int .u64 (lo:Int))).setCell ⟨g,3,none⟩ (.int .u64 (S:Int))).setCell ⟨g,4,none⟩ (.bool true)).setCell ⟨g,5,none⟩ (.bool false)).setCell ⟨g,6,none⟩ (zj4 g (some (lo,S)))) g 230 (k8 g ap lo (some (lo,S)) false) from Row.set (Row.set (Row.set (Row.set (h1.set 2 _) 3 _) 4 _) 5 _) 6 _);have Hb1:=hid (Ha.out.trans (hb2.mono (by simp)));have G1:=yz (a:=⟨g,2,none⟩) (zog (r:=some g) Hb1.out rfl) (.int .u64 (lo:Int)) (.inr rfl);have G2:=yz (a:=⟨g,3,none⟩) G1 (.int .u64 (S:Int)) (.inr rfl);have G3:=yz (a:=⟨g,4,none⟩) G2 (.bool true) (.inr rfl);have G4:=yz (a:=⟨g,5,none⟩) G3 (.bool false) (.inr rfl);have G5:=yz (a:=⟨g,6,none⟩) G4 (zj4 g (some (lo,S))) (.inr rfl);have G6:=yz (a:=⟨w.heap.size,0,none⟩) G5 (.int .u64 (lo:Int)) (.inl (Nat.le_refl _));have HG:=hid (yz (a:=⟨w.heap.size,1,none⟩) G6 (.int .u64 (S:Int)) (.inl (Nat.le_refl _)));clear h1 hb1 hb2 hX q1 q5 G1 G2 G3 G4 G5 G6;simp only[zj4] at HF HG;go_wp2_with fail;refine bodyPost_ret (v:=.tuple #[ivV (lo,S),.bool true]) (by simp[results,Tryz.results211,go_sem,ivV,x0,x1]) rfl ?_;rw[Hr.out];exact⟨rfl,(HF.out.other (a:=⟨w.heap.size,0,none⟩) hne _).other (a:=⟨w.heap.size,1,none⟩) hne _,HG.out⟩
 · have Hr:=hid (fun e w'=>show zls w g ap lo d last e w'=_ from if_neg hc);have hv:zag [lo,d].sum=.tuple #[.int .u64 0,.bool false]:=by rw[hsum];exact zlp hc
   have HS:=hid (fun W g hW=>zj5 [lo,d] W g 2 hW rfl H64.out (by omega) hv);clear hc hsum hv;go_enter Tryz.func211,Tryz.ntmps211;go_wp2_with fail;refine(HS.out _ (w.heap.size+1) (by exact zh _ _ _ (by simp))).mono ?_;rintro e w1 ⟨rfl,hb1⟩;have hb2:=(Below.refl _ _).alloc (Nat.le_refl _) _ |>.trans (hb1.mono (by simp))
   have hX:=HX.out.later hb2;have x0:=hX.cell 0 rfl;have x1:=hX.cell 1 rfl;have y0:=hX.fz 0;have y1:=hX.fz 1;have HF:=hid (H.out.later (Ha.out.trans (hb2.mono (by simp))));have hne:¬g=w.heap.size:=by have:=H.out.lt;omega
   have Hb1:=hid (Ha.out.trans (hb2.mono (by simp)));have G1:=yz (a:=⟨w.heap.size,0,none⟩) (zog (r:=some g) Hb1.out rfl) (.int .u64 0) (.inl (Nat.le_refl _));have HG:=hid (yz (a:=⟨w.heap.size,1,none⟩) G1 (.int .u64 0) (.inl (Nat.le_refl _)));clear hb1 hb2 hX q1 q5 G1;go_wp2_with fail;refine bodyPost_ret (v:=.tuple #[ivV (0,0),.bool false]) (by simp[results,Tryz.results211,go_sem,ivV,x0,x1]) rfl ?_;rw[Hr.out];exact⟨rfl,(HF.out.other (a:=⟨w.heap.size,0,none⟩) hne _).other (a:=⟨w.heap.size,1,none⟩) hne _,HG.out⟩
theorem zyj (g ap lo:Nat) (last:Option Iv) (op:Bool) (w:World) (h:Row w g 230 (k8 g ap lo last op)):
 Calls Tryz.prog 209 #[.pointer (some ⟨g,0,none⟩)] w fun e w'=>e=.returned (.tuple #[ivV (last.getD (0,0)),.bool last.isSome])∧Below w.heap.size w w':=by
 have q2:=fun o=>(h.later ((Below.refl _ _).alloc (Nat.le_refl _) o)).cell 2 rfl
 have q3:=fun o=>(h.later ((Below.refl _ _).alloc (Nat.le_refl _) o)).cell 3 rfl
 have q4:=fun o=>(h.later ((Below.refl _ _).alloc (Nat.le_refl _) o)).cell 4 rfl
 clear h;generalize last.isSome=b at*;generalize last.getD (0,0)=s at*;obtain⟨s1,s2⟩:=s;simp only at q2 q3;go_enter Tryz.func209,Tryz.ntmps209;go_wp2;go_region
 all_goals go_wp2
 all_goals exact bodyPost_ret (v:=.tuple #[ivV (s1,s2),.bool b]) (by simp[results,Tryz.results209,go_sem,ivV]) rfl ⟨rfl,((Below.refl _ _).alloc (Nat.le_refl _) _).drew⟩
end
