/- Part 65. -/
import Derived.Test.YtmfhggnlainmiaaGreatDoorPk64
set_option linter.unusedVariables false
set_option maxHeartbeats 16000000
namespace Go.Proofs.YtmfhggnlainmiaaGreatDoor
open Lib (hid)
section
open Go.RowKit
theorem zva {w:World} (base:Nat) (v:Value) (n:Nat) (xs:List Nat) (hown:w.ownsRow base 64 1 v n (zi xs)) (A:Option Addr) (m c:Nat) (l:List Nat) (hr:Rd w 1 A m (zi l)) (hb:n+m≤1000000000000) (hbase:base≤w.heap.size):
 ∃v' w',(Builtin.append_ #[62,62] 62 #[v,.slice A m c]).run Tryz.prog w=.ok v' w'∧w'.ownsRow base 64 1 v' (n+m) (zi (xs++l))∧w.grownBy w' v.ownBlock:=by
 rw[zrj];exact zcf base _ _ _ _ 1 8 Tryz.underlying62 Tryz.info_u64 rfl (by omega) v n _ hown A m c _ hr (zns l) (by unfold maxLen;omega) (by omega) hbase
theorem z4n {w:World} (base:Nat) (v:Value) (n:Nat) (xs:List Nat) (hown:w.ownsRow base 64 1 v n (zi xs)) (A:Option Addr) (m c:Nat) (l:List Nat) (hr:Rd w 1 A m (zi l)) (hb:n+m≤1000000000000) (hbase:base≤w.heap.size) (hm:0<m):
 ∃v' w',(Builtin.append_ #[62,62] 62 #[v,.slice A m c]).run Tryz.prog w=.ok v' w'∧w'.ownsRow base 64 1 v' (n+m) (zi (xs++l))∧Grw w w' v v':=by
 rcases hown.2 with ⟨rfl,h0⟩ | ⟨g,cap,cur,rfl,hg,hrow,hnc,hcm,hcs,htake⟩
 · have hx:xs=[]:=by
    have:=hown.1;rw[h0] at this;simp only[zi,List.length_map] at this;exact List.length_eq_zero_iff.1 (by omega)
   subst h0 hx;obtain⟨v',w',h1,h2,h3⟩:=zva (w:=w) w.heap.size (.slice none 0 0) 0 [] (World.ownsRow_nil _ _ _ _) A m c l hr hb (Nat.le_refl _);exact⟨v',w',h1,qt h2 hbase,h3,fun k e=>.inr (h2.lt _ e).1⟩
 · obtain⟨i,hi,hz,hs,hby⟩:=info_parts Tryz.info_u64;obtain⟨b,o,rfl,-⟩:=hr.2 hm;have hnews:=hr.news (by omega);have hl1:(zi l).length=m:=by have:=hr.1;omega
   rw[zrj];by_cases hf:n+m≤cap
   · obtain⟨w',r1,r2,r3⟩:=run_append_fits (P:=Tryz.prog) w base 62 62 64 i 1 Tryz.underlying62 hi hs g n cap _ hown ⟨b,o,none⟩ m c (zi l) (by omega) hnews (zns l) hf;exact⟨_,w',r1,r2,r3,fun k e=>.inl e⟩
   · obtain⟨v',w',r1,r2,r3⟩:=run_append_arg_grows (P:=Tryz.prog) w 62 62 64 i _ 1 8 Tryz.underlying62 hi hz hs hby rfl (by omega) ⟨g,0,none⟩ n cap (zi xs) hown.1 (fun j u hu=>hown.cells (g:=g) rfl j u hu) ⟨b,o,none⟩ m c (zi l) (by omega) hnews (by omega) (by unfold maxLen;omega) (by omega);exact⟨v',w',r1,qt r2 hbase,⟨r3.os,r3.tape,r3.output,r3.size,fun k hk _=>r3.block k hk (by simp)⟩,fun k e=>.inr (r2.lt _ e).1⟩
theorem zqr {w:World} {ops:Array Oper} {rest:List Oper} {o:Oper} {a:Act} {Q:Exit→Act→World→Prop} (hgd:o.guard=none) (s x:Operand)
 (ho:o.op=.call { callee:=.builtin .append,args:= #[s,x],argTypes:= #[62,62] }) (hty:o.type=62)
 (base:Nat) (v:Value) (n:Nat) (xs:List Nat) (hs:a.eval s=v) (hown:w.ownsRow base 64 1 v n (zi xs)) (A:Option Addr) (m c:Nat) (l:List Nat) (hx:a.eval x=.slice A m c) (hr:Rd w 1 A m (zi l)) (hb:n+m≤1000000000000) (hbase:base≤w.heap.size)
 (h:∀v' w',w'.ownsRow base 64 1 v' (n+m) (zi (xs++l))→Below base w w'→wpList Tryz.prog ops Q rest (a.put o.dst v') w'):wpList Tryz.prog ops Q (o :: rest) a w:=by
 obtain⟨v',w',hrun,h1,h2⟩:=zva base v n xs hown A m c l hr hb hbase;exact qf _ _ _ ho (by simp[Region.wanted,hgd]) _ _ hs hx v' w' (by rw[hty];exact hrun) (h v' w' h1 (Below.grown (B:=base) (Below.refl _ _) h2 hbase (fun k hk=>(hown.lt k hk).1)))
theorem zm7 {w:World} {ops:Array Oper} {o:Oper} {a:Act} {K:Act→World→Prop} {Q:Exit→Act→World→Prop} {E:Prop} (hgd:o.guard=none) (s x:Operand)
 (ho:o.op=.call { callee:=.builtin .append,args:= #[s,x],argTypes:= #[62,62] }) (hty:o.type=62)
 (base:Nat) (v:Value) (n:Nat) (xs:List Nat) (hs:a.eval s=v) (hown:w.ownsRow base 64 1 v n (zi xs)) (A:Option Addr) (m c:Nat) (l:List Nat) (hx:a.eval x=.slice A m c) (hr:Rd w 1 A m (zi l)) (hb:n+m≤1000000000000) (hbase:base≤w.heap.size)
 (h:∀v' w',w'.ownsRow base 64 1 v' (n+m) (zi (xs++l))→Below base w w'→K (a.put o.dst v') w'):
 if Region.wanted o (yielded ops a.tmps)=true then Oper.wp Tryz.prog o a w K Q else E:=by
 obtain⟨v',w',hrun,h1,h2⟩:=zva base v n xs hown A m c l hr hb hbase;exact zft hgd s x _ ho _ _ hs hx v' w' (by rw[hty];exact hrun) (h v' w' h1 (Below.grown (B:=base) (Below.refl _ _) h2 hbase (fun k hk=>(hown.lt k hk).1)))
theorem z4o {w:World} {ops:Array Oper} {rest:List Oper} {o:Oper} {a:Act} {Q:Exit→Act→World→Prop} (hgd:o.guard=none) (s x:Operand)
 (ho:o.op=.call { callee:=.builtin .append,args:= #[s,x],argTypes:= #[62,62] }) (hty:o.type=62)
 (base:Nat) (v:Value) (n:Nat) (xs:List Nat) (hs:a.eval s=v) (hown:w.ownsRow base 64 1 v n (zi xs)) (A:Option Addr) (m c:Nat) (l:List Nat) (hx:a.eval x=.slice A m c) (hr:Rd w 1 A m (zi l)) (hb:n+m≤1000000000000) (hbase:base≤w.heap.size) (hm:0<m)
 (h:∀v' w',w'.ownsRow base 64 1 v' (n+m) (zi (xs++l))→Grw w w' v v'→wpList Tryz.prog ops Q rest (a.put o.dst v') w'):wpList Tryz.prog ops Q (o :: rest) a w:=by
 obtain⟨v',w',hrun,h1,h2⟩:=z4n base v n xs hown A m c l hr hb hbase hm;exact qf _ _ _ ho (by simp[Region.wanted,hgd]) _ _ hs hx v' w' (by rw[hty];exact hrun) (h v' w' h1 h2)
theorem z4p {w:World} {ops:Array Oper} {o:Oper} {a:Act} {K:Act→World→Prop} {Q:Exit→Act→World→Prop} {E:Prop} (hgd:o.guard=none) (s x:Operand)
 (ho:o.op=.call { callee:=.builtin .append,args:= #[s,x],argTypes:= #[62,62] }) (hty:o.type=62)
 (base:Nat) (v:Value) (n:Nat) (xs:List Nat) (hs:a.eval s=v) (hown:w.ownsRow base 64 1 v n (zi xs)) (A:Option Addr) (m c:Nat) (l:List Nat) (hx:a.eval x=.slice A m c) (hr:Rd w 1 A m (zi l)) (hb:n+m≤1000000000000) (hbase:base≤w.heap.size) (hm:0<m)
 (h:∀v' w',w'.ownsRow base 64 1 v' (n+m) (zi (xs++l))→Grw w w' v v'→K (a.put o.dst v') w'):
 if Region.wanted o (yielded ops a.tmps)=true then Oper.wp Tryz.prog o a w K Q else E:=by
 obtain⟨v',w',hrun,h1,h2⟩:=z4n base v n xs hown A m c l hr hb hbase hm;exact zft hgd s x _ ho _ _ hs hx v' w' (by rw[hty];exact hrun) (h v' w' h1 h2)
theorem z4q {w:World} {base:Nat} {T:TypeId} {v:Value} {n m:Nat} {xs:List Value} (h:w.ownsRow base T 1 v n xs) (e:n=m):w.ownsRow base T 1 v m xs:=e ▸ h
theorem Rd.u64_at {w:World} {A:Option Addr} {n:Nat} {l:List Nat} (h:Rd w 1 A n (zi l)) (hn:0<n):∃b o,A=some ⟨b,o,none⟩∧∀j,j<l.length→w.cell? ⟨b,o+j,none⟩=some (.int .u64 ((nth l j:Nat):Int)):=by
 obtain⟨b,o,e,hc⟩:=h.2 hn;exact⟨b,o,e,fun j hj=>hc j _ (ze2 l j hj)⟩
set_option maxRecDepth 20000 in
theorem yiv (a:Option Addr) (n c ap:Nat) (l:List Iv) (w:World) (hI:Ivs w a n c l) (hD:zdg l ap) (hn:n≤100000) (hap:ap≤1):
 Calls Tryz.prog 137 #[.slice a n c,.int .u64 ap] w fun e w'=>(∃v,e=.returned v∧w'.ownsRow w.heap.size 64 1 v (2*n) (zi (zau l ap)))∧Below w.heap.size w w':=by
 have HI:=hid hI;have Hl:=hid hI.len;have HD:=hid hD;have Hlt:=hid hI.lt;have Hall:=hid (show zau l ap=zal l ap n from by rw[←hI.len];rfl);clear hI hD;go_enter Tryz.func137,Tryz.ntmps137;go_wp2;go_loopw [5,6] (fun v i wr=>∃d:Nat,d≤n∧i=.int .i64 d∧Below w.heap.size w wr∧Hid (wr.ownsRow w.heap.size 64 1 v (2*d) (zi (zal l ap d)))) (fun _ i _=>n - (intOf i).toNat)
 case atStart=>exact⟨0,by omega,rfl,Below.refl _ _,World.ownsRow_nil _ _ _ _⟩
 case round=>
  obtain⟨d,hd,rfl,hb,ho⟩:=hrel;have Hb:=hid hb;clear hb;by_cases hdn:d<n
  · obtain⟨bl,ol,rfl⟩:=HI.out.some (by omega);obtain⟨g1,g2⟩:=HD.out d (by rw[Hl.out];exact hdn);have l1:=(Hlt.out _ (zbo (l:=l) (k:=d) (by rw[Hl.out];exact hdn)));have Hst:=hid (show zal l ap (d+1)=zal l ap d++[vz l ap d]++[(zb l d).2 - (zb l d).1] from by rw[List.append_assoc];rfl);have Hg:=hid (show vz l ap d=if d=0 then (zb l 0).1 else (zb l d).1 - (zb l (d - 1)).2 - 1 - ap from rfl);have hg0:d=0→zb l 0=zb l d:=fun h=>by rw[h]
    have h0:(0:Int)≤d:=by omega
    have h04:(d:Int)<(n:Int):=by omega
    have hbr:Below w.heap.size w wr:=Hb.out;have hz:w.heap.size≤wr.heap.size:=hbr.size;have r1:∀w',Below w.heap.size wr w'→w'.cell? ⟨bl,ol+d*2,none⟩=some (.int .u64 (((zb l d).1:Nat):Int)):=fun w' h=>(HI.out.at hdn w' (hbr.trans h)).1
    have r2:∀w',Below w.heap.size wr w'→w'.cell? ⟨bl,ol+d*2+1,none⟩=some (.int .u64 (((zb l d).2:Nat):Int)):=fun w' h=>(HI.out.at hdn w' (hbr.trans h)).2
    have Hc':=hid (fun (h1:d - 1<n) w' (h:Below w.heap.size wr w')=>(HI.out.at h1 w' (hbr.trans h)).2);generalize vz l ap d=gp at*;generalize zb l 0=s0 at*;generalize zb l d=s at*;generalize zb l (d - 1)=p at*;obtain⟨sx,sy⟩:=s;obtain⟨px,py⟩:=p;simp only at r1 r2 Hc' Hst Hg g1 g2 l1;have hsz:IntKind.u64.wrap ((sy:Int) - (sx:Int))=((sy - sx:Nat):Int):=by rw[IntKind.wrap_u64];omega
    generalize sy - sx=sz at*;have HoW:=hid (fun W (h:Below wr.heap.size wr W)=>zm ho.out h);rcases Nat.eq_zero_or_pos d with hd0 | hd0
    · have hgp:gp=sx:=by rw[Hg.out,if_pos hd0,hg0 hd0]
      have hq1:((d:Int) == 0)=true:=by rw[beq_iff_eq];omega
      have q1:=r1 _ (Below.refl _ _);have Hal:=hid (Below.alloc (Below.refl wr.heap.size wr) (Nat.le_refl _) (.cells #[.int .u64 gp] 64));have Hau:=hid (Below.alloc (Below.refl w.heap.size wr) hz (.cells #[.int .u64 gp] 64));subst hgp;clear Hc' g1 g2 l1 Hg hg0 hd0;go_wp2_with (at_builtin;refine zqr rfl (.tmp 15) (.tmp 21) rfl rfl w.heap.size _ (2*d) _ rfl (HoW.out _ Hal.out) _ 1 1 [gp] rfl (yq (zh _ _ _ rfl) rfl rfl) (by omega) (Nat.le_trans hz Hal.out.size) ?_;intro v1 w1 ho1 hg1);have hS1:=Hau.out.trans hg1;clear hg1 q1 Hal Hau
      go_region_held3 (fun w'=>Below w.heap.size wr w') (first | assumption | exact Below.drew (by assumption) | exact Below.alloc (by assumption) (Nat.le_trans hz (Below.size (by assumption))) _) (first
       | (refine zm7 rfl (.tmp 41) (.tmp 53) rfl rfl w.heap.size _ _ _ rfl (zm ho1 (by first | exact((Below.refl _ _).alloc (Nat.le_refl _) _).drew | exact((Below.refl _ _).drew).alloc (by simp) _)) _ 1 _ [sz] rfl (yq (by first | exact zh _ _ _ (by simp) | exact jp _ _ _ _ (zh _ _ _ (by simp))) rfl rfl) (by omega) (by have:=hS1.size;simp <;> omega) ?_
          intro v2 w2 ho2 hg2;have hS2:Below w.heap.size wr w2:=Below.trans (by assumption) hg2))
      all_goals
       go_wp2;go_roundw
       case rel=>exact⟨d+1,by omega,by go_num,hbr.trans hS2,by rw[Hst.out];exact ho2⟩
       case measure=>simp[intOf];omega
    · have g2:=g2 hd0;have hgp:gp=sx - py - 1 - ap:=by rw[Hg.out,if_neg (by omega)]
      have hq1:((d:Int) == 0)=false:=by rw[beq_eq_false_iff_ne];omega
      have hsub:IntKind.i64.wrap ((d:Int) - 1)=((d - 1:Nat):Int):=by rw[IntKind.wrap_i64];omega
      have h01:(0:Int)≤((d - 1:Nat):Int):=by omega
      have h03:((d - 1:Nat):Int)<(n:Int):=by omega
      have r3:=Hc'.out (by omega);have hw1:IntKind.u64.wrap ((sx:Int) - (py:Int))=((sx - py:Nat):Int):=by rw[IntKind.wrap_u64];omega
      have hw2:IntKind.u64.wrap (((sx - py:Nat):Int) - 1)=((sx - py - 1:Nat):Int):=by rw[IntKind.wrap_u64];omega
      have hw3:IntKind.u64.wrap (((sx - py - 1:Nat):Int) - (ap:Int))=(gp:Int):=by rw[IntKind.wrap_u64,hgp];omega
      clear Hc' g1 g2 l1 Hg hg0 hgp;generalize sx - py - 1=t2 at*;generalize sx - py=t1 at*;generalize d - 1=d1 at*;go_wp2_with fail
      go_region_held3 (fun w'=>Below w.heap.size wr w') (first | assumption | exact Below.refl _ _ | exact(Below.refl _ _).drew | exact Below.drew (by assumption) | exact Below.alloc (by assumption) (Nat.le_trans hz (Below.size (by assumption))) _) (first
       | (refine zm7 rfl (.tmp 23) (.tmp 39) rfl rfl w.heap.size _ (2*d) _ rfl (HoW.out _ (by first | exact((Below.refl _ _).alloc (Nat.le_refl _) _).drew | exact((Below.refl _ _).drew).alloc (by simp) _)) _ 1 _ [gp] rfl (yq (by first | exact zh _ _ _ (by simp) | exact jp _ _ _ _ (zh _ _ _ (by simp))) rfl rfl) (by omega) (by simp <;> omega) ?_
          intro v1 w1 ho1 hg1;have hS1:Below w.heap.size wr w1:=Below.trans (by assumption) hg1))
      all_goals
       clear hg1;go_wp2_with fail
       go_region_held3 (fun w'=>Below w.heap.size wr w') (first | assumption | exact Below.drew (by assumption) | exact Below.alloc (by assumption) (Nat.le_trans hz (Below.size (by assumption))) _) (first
        | (refine zm7 rfl (.tmp 41) (.tmp 53) rfl rfl w.heap.size _ _ _ rfl (zm ho1 (by first | exact((Below.refl _ _).alloc (Nat.le_refl _) _).drew | exact((Below.refl _ _).drew).alloc (by simp) _)) _ 1 _ [sz] rfl (yq (by first | exact zh _ _ _ (by simp) | exact jp _ _ _ _ (zh _ _ _ (by simp))) rfl rfl) (by omega) (by have:=hS1.size;simp <;> omega) ?_
           intro v2 w2 ho2 hg2;have hS2:Below w.heap.size wr w2:=Below.trans (by assumption) hg2))
       all_goals
        go_wp2;go_roundw
        case rel=>exact⟨d+1,by omega,by go_num,hbr.trans hS2,by rw[Hst.out];exact ho2⟩
        case measure=>simp[intOf];omega
  · obtain rfl:d=n:=by omega
    have Ho:=hid ho.out;rw[←Hall.out] at Ho;go_wp2;go_ret;exact⟨⟨_,rfl,Ho.out⟩,Hb.out⟩
theorem yiw (v:Vec) (d:Nat):jn v (d+1)=jn v d++[zdv v d]++[(zg v d).2.1,(zg v d).2.2.length]++zau (zg v d).2.2 1:=by
 rw[jn,zam];simp only[List.append_assoc,List.cons_append,List.nil_append]
set_option maxRecDepth 20000 in
theorem yix (a:Option Addr) (n cap:Nat) (v:Vec) (w:World) (hE:Ents w a n cap v) (hasc:v.Pairwise zay) (hG:∀e∈v,Good e.2.2) (hn:n≤340) (hh:∀e∈v,e.2.2.length≤500):
 Calls Tryz.prog 83 #[.slice a n cap] w fun x w'=>(∃y,x=.returned y∧w'.ownsRow w.heap.size 64 1 y (zan v).length (zi (zan v)))∧Below w.heap.size w w':=by
 have HE:=hid hE;have Hl:=hid hE.len;have Hmem:=hid hE.lt;have HG:=hid hG;have HH:=hid hh;have Hasc:=hid (List.pairwise_iff_getElem.1 hasc);have Hlen:=hid (fun d (hd:d≤v.length)=>zqi v hh d hd);have hw:IntKind.u64.wrap (n:Int)=(n:Int):=by rw[IntKind.wrap_u64];omega
 have ho0:=World.ownsRow_lit (e:=64) (size:=1) (base:=w.heap.size) w (zi [n]).toArray 1 (Nat.le_refl _) (by unfold maxLen;omega) rfl;have Ho0:=hid ho0;have hb0:Below w.heap.size w (w.alloc (.cells (zi [n]).toArray 64)):=(Below.refl _ _).alloc (Nat.le_refl _) _;clear hE hG hh hasc ho0;go_enter Tryz.func83,Tryz.ntmps83;go_wp2;go_loopw [3,4] (fun y i wr=>∃d:Nat,d≤n∧i=.int .i64 d∧Below w.heap.size w wr∧Hid (wr.ownsRow w.heap.size 64 1 y (jn v d).length (zi (jn v d)))) (fun _ i _=>n - (intOf i).toNat)
 case atStart=>exact⟨0,by omega,rfl,hb0,by
  have:=Ho0.out;rw[show jn v 0=[n] from by rw[jn,Hl.out]];exact this⟩
 case round=>
  obtain⟨d,hd,rfl,hb,ho⟩:=hrel;have Hb:=hid hb;clear hb;by_cases hdn:d<n
  · have hdv:d<v.length:=by rw[Hl.out];exact hdn
    obtain⟨bb,oo,rfl⟩:=HE.out.some (by omega);obtain⟨x,m,c,hq⟩:=HE.out.fix hdn;have hbr:Below w.heap.size w wr:=Hb.out;have hz:w.heap.size≤wr.heap.size:=hbr.size;have r1:∀w',Below w.heap.size wr w'→w'.cell? ⟨bb,oo+d*3,none⟩=some (.int .u64 (((zg v d).1:Nat):Int)):=fun w' h=>(hq w' (hbr.trans h)).1
    have r2:∀w',Below w.heap.size wr w'→w'.cell? ⟨bb,oo+d*3+1,none⟩=some (.int .u64 (((zg v d).2.1:Nat):Int)):=fun w' h=>(hq w' (hbr.trans h)).2.1
    have r3:∀w',Below w.heap.size wr w'→w'.cell? ⟨bb,oo+d*3+2,none⟩=some (.slice x m c):=fun w' h=>(hq w' (hbr.trans h)).2.2.1
    have HIv:=hid (fun w' (h:Below w.heap.size wr w')=>(hq w' (hbr.trans h)).2.2.2);have hIv:=HIv.out _ (Below.refl _ _);have hml:=hIv.len;have hmh:m≤500:=by rw[←hml];exact HH.out _ (vq hdv)
    have HDf:=hid (zrw (HG.out _ (vq hdv)));have hwm:IntKind.u64.wrap (m:Int)=(m:Int):=by rw[IntKind.wrap_u64];omega
    have Hst:=hid (yiw v d);rw[hml] at Hst;have Hrd:=hid (show zdv v d=if d=0 then (zg v 0).1 else (zg v d).1 - (zg v (d - 1)).1 - 1 from rfl);have hr0:d=0→(zg v 0).1=(zg v d).1:=fun h=>by rw[h]
    have hlp:0<d→(zg v (d - 1)).1<(zg v d).1:=fun h=>by
     have:=Hasc.out (d - 1) d (by omega) hdv (by omega);rw[j0 hdv,j0 (by omega)];exact this
    have l1:=(Hmem.out _ (vq hdv)).rep;have hln:=Hlen.out d (by omega);have hdl:(zau (zg v d).2.2 1).length=2*m:=by unfold zau;rw[zgn,hml]
    have Hc':=hid (fun (h1:d - 1<n)=>show ∀w',Below w.heap.size wr w'→w'.cell? ⟨bb,oo+(d - 1)*3,none⟩=some (.int .u64 (((zg v (d - 1)).1:Nat):Int)) from by
     obtain⟨_,_,_,hq'⟩:=HE.out.fix h1;exact fun w' h=>(hq' w' (hbr.trans h)).1)
    clear hq hIv hml;generalize zdv v d=rp at*;generalize (zg v (d - 1)).1=pr at*;generalize zg v d=e at*;obtain⟨er,em,eh⟩:=e;simp only at r1 r2 HIv HDf Hst Hrd hr0 hlp l1 hdl;generalize jn v d=P at*;have HoW:=hid (fun W (h:Below wr.heap.size wr W)=>zm ho.out h);rcases Nat.eq_zero_or_pos d with hd0 | hd0
    case' inl=>
     have hgp:rp=er:=by rw[Hrd.out,if_pos hd0,hr0 hd0]
     have hq1:((d:Int) == 0)=true:=by rw[beq_iff_eq];omega
     have q1:=r1 _ (Below.refl _ _);have Hal:=hid (Below.alloc (Below.refl wr.heap.size wr) (Nat.le_refl _) (.cells #[.int .u64 rp] 64));have Hau:=hid (Below.alloc (Below.refl w.heap.size wr) hz (.cells #[.int .u64 rp] 64));subst hgp;clear Hc' hlp l1 Hrd hr0 hd0;go_wp2_with (at_builtin;refine zqr rfl (.tmp 17) (.tmp 23) rfl rfl w.heap.size _ P.length _ rfl (HoW.out _ Hal.out) _ 1 1 [rp] rfl (yq (zh _ _ _ rfl) rfl rfl) (by omega) (Nat.le_trans hz Hal.out.size) ?_;intro v1 w1 ho1 hg1);have hS1:=Hau.out.trans hg1;clear hg1 q1 Hal Hau
    case' inr=>
     have hlp:=hlp hd0;have hgp:rp=er - pr - 1:=by rw[Hrd.out,if_neg (by omega)]
     have hq1:((d:Int) == 0)=false:=by rw[beq_eq_false_iff_ne];omega
     have hsub:IntKind.i64.wrap ((d:Int) - 1)=((d - 1:Nat):Int):=by rw[IntKind.wrap_i64];omega
     have h01:(0:Int)≤((d - 1:Nat):Int):=by omega
     have h03:((d - 1:Nat):Int)<(n:Int):=by omega
     have h0:(0:Int)≤d:=by omega
     have h04:(d:Int)<(n:Int):=by omega
     have r4:=Hc'.out (by omega);have hw1:IntKind.u64.wrap ((er:Int) - (pr:Int))=((er - pr:Nat):Int):=by rw[IntKind.wrap_u64];omega
     have hw2:IntKind.u64.wrap (((er - pr:Nat):Int) - 1)=(rp:Int):=by rw[IntKind.wrap_u64,hgp];omega
     clear Hc' hlp l1 Hrd hr0 hgp;generalize er - pr=t1 at*;generalize d - 1=d1 at*;go_wp2_with fail
     go_region_held3 (fun w'=>Below w.heap.size wr w') (first | assumption | exact Below.refl _ _ | exact(Below.refl _ _).drew | exact Below.drew (by assumption) | exact Below.alloc (by assumption) (Nat.le_trans hz (Below.size (by assumption))) _) (first
      | (refine zm7 rfl (.tmp 25) (.tmp 39) rfl rfl w.heap.size _ P.length _ rfl (HoW.out _ (by first | exact((Below.refl _ _).alloc (Nat.le_refl _) _).drew | exact((Below.refl _ _).drew).alloc (by simp) _)) _ 1 _ [rp] rfl (yq (by first | exact zh _ _ _ (by simp) | exact jp _ _ _ _ (zh _ _ _ (by simp))) rfl rfl) (by omega) (by simp <;> omega) ?_
         intro v1 w1 ho1 hg1;have hS1:Below w.heap.size wr w1:=Below.trans (by assumption) hg1))
     all_goals clear hg1
     all_goals go_wp2_with fail
    all_goals
     have h0:(0:Int)≤d:=by omega
     have h04:(d:Int)<(n:Int):=by omega
     go_region_held3 (fun w'=>Below w.heap.size wr w') (first | assumption | exact Below.drew (by assumption) | exact Below.alloc (by assumption) (Nat.le_trans hz (Below.size (by assumption))) _) (first
      | (refine zm7 rfl (.tmp 41) (.tmp 54) rfl rfl w.heap.size _ _ _ rfl (zm ho1 (by first | exact((Below.refl _ _).alloc (Nat.le_refl _) _).drew | exact((Below.refl _ _).drew).alloc (by simp) _)) _ 2 _ [em,m] rfl (yq (by first | exact zh _ _ _ (by simp) | exact jp _ _ _ _ (zh _ _ _ (by simp))) rfl rfl) (by omega) (by have:=hS1.size;simp <;> omega) ?_
         intro v2 w2 ho2 hg2;have hS2:Below w.heap.size wr w2:=Below.trans (by assumption) hg2))
     all_goals
      have q3:=r3 _ hS2;have HD:=hid (yiv x m c 1 eh w2 (HIv.out _ hS2) HDf.out (by omega) (by omega));rw[show ((1:Nat):Int)=1 from rfl] at HD;have Ho2:=hid ho2;clear hg2 ho2 ho1 hS1 r1 r2 r3;go_wp2_with fail;refine HD.out.mono ?_;rintro z w3 ⟨⟨vd,rfl,hod⟩,hb3⟩;obtain⟨ad,cd,rfl⟩:=jh hod;have hbz:Below w.heap.size wr w3:=hS2.trans (hb3.mono (Nat.le_trans hz hS2.size));have Ho3:=hid (zm Ho2.out hb3);have Hrd3:=hid (Rd.own hod);clear hod hb3 q3 HD Ho2;go_wp2_with (at_builtin;refine zqr rfl (.tmp 56) (.tmp 62) rfl rfl w.heap.size _ _ _ rfl Ho3.out _ (2*m) _ (zau eh 1) rfl Hrd3.out (by omega) (Nat.le_trans hz hbz.size) ?_;intro v4 w4 ho4 hg4);have hS4:=hbz.trans hg4;clear hg4;go_wp2;go_roundw
      case rel=>exact⟨d+1,by omega,by go_num,hbr.trans hS4,by
       rw[Hst.out];refine z4q ho4 ?_;simp only[List.length_append,List.length_cons,List.length_nil,hdl]⟩
      case measure=>simp[intOf];omega
  · obtain rfl:d=n:=by omega
    have Ho:=hid ho.out;rw[←Hl.out,show jn v v.length=zan v from rfl] at Ho;go_wp2;go_ret;exact⟨⟨_,rfl,Ho.out⟩,Hb.out⟩
set_option maxRecDepth 20000 in
theorem z4r (a:Option Addr) (n cap:Nat) (l:List Nat) (w:World) (hr:Rd w 1 a n (zi l)) (hl:l.length=n) (hlt:∀x∈l,x<18446744073709551616) (hn:n≤90000000000):
 Calls Tryz.prog 38 #[.slice a n cap] w fun x w'=>(∃y,x=.returned y∧OwnB w' w.heap.size y l)∧Below w.heap.size w w':=by
 have HR:=hid (fun W (h:Below w.heap.size w W)=>hr.below h);have Hl:=hid hl;have Hlt:=hid hlt;clear hr hl hlt;go_enter Tryz.func38,Tryz.ntmps38;go_wp2;go_loopw [3,4] (fun y i wr=>∃d:Nat,d≤n∧i=.int .i64 d∧Below w.heap.size w wr∧Hid (OwnB wr w.heap.size y (l.take d))) (fun _ i _=>n - (intOf i).toNat)
 case atStart=>exact⟨0,by omega,rfl,Below.refl _ _,by rw[List.take_zero];exact z3z _ _⟩
 case round=>
  obtain⟨d,hd,rfl,hb,ho⟩:=hrel;have Hb:=hid hb;clear hb;by_cases hdn:d<n
  · have hdl:d<l.length:=by rw[Hl.out];exact hdn
    obtain⟨bb,oo,rfl,hcell⟩:=(HR.out _ Hb.out).u64_at (by omega);have q1:=hcell d (by rw[Hl.out];exact hdn);have hx:=Hlt.out _ (zce hdl);have Hst:=hid (show l.take (d+1)=l.take d++[nth l d] from by rw[List.take_succ_eq_append_getElem hdl];simp[nth,hdl]);have HV:=hid (zs2 9 (nth l d) wr (by omega) hx (Nat.le_refl _));have Hjl:=hid (zji (l.take d));have Htl:(l.take d).length=d:=by rw[List.length_take];omega
    have h0:(0:Int)≤d:=by omega
    have h04:(d:Int)<(n:Int):=by omega
    clear hcell;generalize nth l d=x at*;generalize l.take d=P at*;go_wp2_with fail;refine HV.out.mono ?_;rintro z w1 ⟨v1,rfl,ho1,hb1⟩;obtain⟨a1,c1,rfl,hB1⟩:=zbk ho1 (zk3 9 x);have Ho1:=hid (ho.out.below hb1);have hbb:Below w.heap.size w w1:=Hb.out.trans (hb1.mono Hb.out.size);obtain⟨v2,w2,hr2,ho2,hg2⟩:=zdd w.heap.size _ _ _ Ho1.out a1 _ c1 _ hB1 (by have:=Hjl.out;have:=zdc 9 x;omega) hbb.size;have Ho2:=hid ho2;have Hb2:=hid (hbb.grown hg2 hbb.size (fun k hk=>(Ho1.out.lt k hk).1));have Hr2:=hid hr2;clear hr2 ho2 hg2 hb1 ho1 hB1 hbb q1;go_wp2_with (at_builtin;refine qf _ _ 22 rfl rfl _ _ rfl rfl _ _ Hr2.out ?_);go_roundw
    case rel=>exact⟨d+1,by omega,by go_num,Hb2.out,by
     rw[Hst.out];unfold OwnB;rw[zmz,z3t,List.length_append,zds];exact Ho2.out⟩
    case measure=>simp[intOf];omega
  · obtain rfl:d=n:=by omega
    have Ho:=hid ho.out;rw[show l.take d=l from List.take_of_length_le (by rw[Hl.out];exact Nat.le_refl _)] at Ho;go_wp2;go_ret;exact⟨⟨_,rfl,Ho.out⟩,Hb.out⟩
set_option maxRecDepth 100000 in
theorem z4s (a:Option Addr) (n cap:Nat) (c:Kno) (w:World) (hE:Frags w a n cap c) (hK:EncK c):
 Calls Tryz.prog 37 #[.slice a n cap] w fun x w'=>(∃y,x=.returned y∧w'.ownsRow w.heap.size 64 1 y (zn c).length (zi (zn c)))∧Below w.heap.size w w':=by
 have HE:=hid hE;have HK:=hid hK;have Hl:=hid hE.len;have hnn:n≤1000:=by rw[←hE.len];exact hK.len
 have Hlen:=hid (fun d (hd:d≤c.length)=>zm1 hK d hd);have HSeg:=hid (fun W (h:Below w.heap.size w W)=>yiu a n cap c W (hE.below h) hK.sum hnn);have hw:IntKind.u64.wrap (n:Int)=(n:Int):=by rw[IntKind.wrap_u64];omega
 have ho0:=World.ownsRow_lit (e:=64) (size:=1) (base:=w.heap.size) w (zi [n]).toArray 1 (Nat.le_refl _) (by unfold maxLen;omega) rfl;have Ho0:=hid ho0;have hb0:Below w.heap.size w (w.alloc (.cells (zi [n]).toArray 64)):=(Below.refl _ _).alloc (Nat.le_refl _) _;clear hE hK ho0;go_enter Tryz.func37,Tryz.ntmps37;go_wp2;go_loopw [3,4] (fun y i wr=>∃d:Nat,d≤n∧i=.int .i64 d∧Below w.heap.size w wr∧Hid (wr.ownsRow w.heap.size 64 1 y (qv c d).length (zi (qv c d)))) (fun _ i _=>n - (intOf i).toNat)
 case atStart=>exact⟨0,by omega,rfl,hb0,by
  have:=Ho0.out;rw[show qv c 0=[n] from by rw[qv,Hl.out]];exact this⟩
 case round=>
  obtain⟨d,hd,rfl,hb,ho⟩:=hrel;have Hb:=hid hb;clear hb;by_cases hdn:d<n
  · have hdc:d<c.length:=by rw[Hl.out];exact hdn
    obtain⟨bb,oo,rfl⟩:=HE.out.some (by omega);obtain⟨x,m,cx,y,m',c',hq⟩:=HE.out.fix hdn;obtain⟨-,-,q3,hEn⟩:=hq _ Hb.out;have hmem:=yh hdc;have hcv:=(HK.out.can.vec _ hmem).1;have hfit:=HK.out.vec _ hmem;have HN:=hid (yix y m' c' (za c d).2 wr hEn hcv.asc (fun e he=>(hcv.ent e he).good) (by rw[←hEn.len];exact hfit.len) hfit.holes);have Hst:=hid (show qv c (d+1)=qv c d++zan (za c d).2 from rfl);have hl1:=Hlen.out (d+1) hdc;rw[Hst.out,List.length_append] at hl1;have h0:(0:Int)≤d:=by omega
    have h04:(d:Int)<(n:Int):=by omega
    clear hq hEn hmem hcv hfit;generalize zan (za c d).2=pk at*;generalize qv c d=P at*;have hbnd:P.length+pk.length≤1000000000000:=by omega
    clear hl1;go_wp2_with fail;refine HN.out.mono ?_;rintro z w1 ⟨⟨v1,rfl,ho1⟩,hb1⟩;obtain⟨a1,c1,rfl⟩:=jh ho1;have Hrd:=hid (Rd.own ho1);have Ho1:=hid (zm ho.out hb1);have hbb:Below w.heap.size w w1:=Hb.out.trans (hb1.mono Hb.out.size);clear ho1 hb1 q3;go_wp2_with (at_builtin;refine zqr rfl (.tmp 18) (.tmp 24) rfl rfl w.heap.size _ _ _ rfl Ho1.out _ pk.length _ pk rfl Hrd.out hbnd hbb.size ?_;intro v2 w2 ho2 hg2);have hb2:=hbb.trans hg2;clear hg2;go_wp2;go_roundw
    case rel=>exact⟨d+1,by omega,by go_num,hb2,by
     rw[Hst.out,List.length_append];exact ho2⟩
    case measure=>simp[intOf];omega
  · obtain rfl:d=n:=by omega
    have HSg:=hid (HSeg.out wr Hb.out);have hl0:=Hlen.out d (by rw[Hl.out];exact Nat.le_refl _);have HoV:=hid ho.out;obtain⟨wV,hwV⟩:∃wV:World,wV=wr:=⟨_,rfl⟩;rw[←hwV] at Hb HoV HSg ⊢;clear hwV ho;have HcL:=hid (show c.length=d from Hl.out)
    have hsl:(zk c).length≤1000:=by
     have:=zfv c c.length (Nat.le_refl _);rw[List.take_length] at this;have:=HK.out.sum;unfold zk;omega
    have HSlt:=hid (show ∀s∈yi (zk c),s.1<18446744073709551616∧s.2<18446744073709551616 from fun s hs=>by
     obtain⟨p,hp,rfl⟩:=List.mem_map.1 hs;obtain⟨-,-,h3⟩:=zep c c.length (Nat.le_refl _);exact(HK.out.lt _ (yh (h3 p hp).1)).1 _ (h3 p hp).2)
    have HDf:=hid (show zdg (yi (zk c)) 0 from by exact zr4 HK.out.can);have HIx:=hid (fun i (h:i<(zk c).length)=>zod (k:=c) h)
    have Hend:=hid (show zn c=qv c d++vt (yi (zk c)) (qn (zk c)) (zk c).length from by
     unfold zn;rw[HcL.out]
     rfl)
    generalize u3=bV at*;clear HSeg Hlen HK hb0 Ho0;have HlV:=hid (show ∀k,bV.ownBlock=some k→w.heap.size≤k∧k<wV.heap.size from HoV.out.lt);go_wp2_with fail;refine HSg.out.mono ?_;rintro z w4 ⟨⟨vl,vx,rfl,hO2⟩,hb4⟩;obtain⟨al,cl,rfl⟩:=jh hO2.ivs;obtain⟨ax,cx,rfl⟩:=jh hO2.idx;obtain⟨S,hS⟩:∃S,S=(zk c).length:=⟨_,rfl⟩;have hSl:(yi (zk c)).length=S:=by rw[hS];unfold yi;rw[List.length_map]
    have hXl:(qn (zk c)).length=S:=by rw[hS];unfold qn;rw[List.length_map]
    have hRi:=hO2.ivs;have hRx:=hO2.idx;rw[←hS] at hsl hRi hRx Hend HIx ⊢;have hcvS:IntKind.u64.wrap (S:Int)=(S:Int):=by rw[IntKind.wrap_u64];omega
    have hb4w:=Hb.out.trans (hb4.mono Hb.out.size);have Ho4:=hid (zm HoV.out hb4);have HRi:=hid hRi;have HRx:=hid hRx;have HSl:=hid hSl;have HXl:=hid hXl
    have Hxl:=hid (show ∀t,t<S→nth (qn (zk c)) t<1001 from fun t ht=>by
     have:=HIx.out t ht;have:=HcL.out;unfold qn;omega)
    have Hal4:=hid (Below.alloc (Below.refl w4.heap.size w4) (Nat.le_refl _) (.cells #[.int .u64 S] 64));clear hO2 hRi hRx hS hSl hXl HIx hb4 HSg HoV;generalize yi (zk c)=LS at*;generalize qn (zk c)=XS at*;generalize qv c d=P0 at*;have hbnd0:P0.length+1≤1000000000000:=by omega
    have hzz:w.heap.size≤w4.heap.size:=hb4w.size;have HneI:=hid (fun k (hk:(Value.slice al S cl).ownBlock=some k)=>show bV.ownBlock≠some k from fun e=>absurd (HlV.out k e).2 (Nat.not_lt.2 (HRi.out.lt k hk).1));have HneX:=hid (fun k (hk:(Value.slice ax S cx).ownBlock=some k)=>show bV.ownBlock≠some k from fun e=>absurd (HlV.out k e).2 (Nat.not_lt.2 (HRx.out.lt k hk).1));have HeB:=hid (fun W y (h:Grw w4 W bV y)=>show Below w.heap.size w W from hb4w.trans (h.toBelow hzz (fun k hk=>(HlV.out k hk).1)));clear HlV hb4w Hb;go_wp2_with (at_builtin;refine z4o rfl (.tmp 31) (.tmp 35) rfl rfl w.heap.size _ _ _ rfl (zm Ho4.out Hal4.out) _ 1 1 [S] rfl (yq (zh _ _ _ rfl) rfl rfl) hbnd0 (Nat.le_trans hzz Hal4.out.size) (by omega) ?_;intro v5 w5 ho5 hg5);have Hg5:=hid (((Grw.refl w4 bV).alloc _).trans hg5)
    have Ho5:=hid (show w5.ownsRow w.heap.size 64 1 v5 (P0++vt LS XS 0).length (zi (P0++vt LS XS 0)) from by
     rw[show vt LS XS 0=[S] from by rw[vt,HSl.out],List.length_append];exact ho5)
    clear hg5 ho5 Hal4 Ho4;go_wp2;go_loopw [3,7] (fun y i wr=>∃t:Nat,t≤S∧i=.int .i64 t∧Hid (Grw w4 wr bV y)∧Hid (wr.ownsRow w.heap.size 64 1 y (P0++vt LS XS t).length (zi (P0++vt LS XS t)))) (fun _ i _=>S - (intOf i).toNat)
    case atStart=>exact⟨0,by omega,rfl,Hg5,Ho5⟩
    case round=>
     obtain⟨t,ht,rfl,hgi,hoi⟩:=hrel;by_cases htS:t<S
     · obtain⟨gl,cl',hgl,-⟩:=zcz HRi.out (by omega);cases hgl;obtain⟨gx,cx',hgx,-⟩:=zcz HRx.out (by omega);cases hgx
       have HC:=hid (fun w' (h:GrwE w4 w' bV) j (hj:j<S)=>show w'.cell? ⟨gl,j*2,none⟩=some (.int .u64 (((zb LS j).1:Nat):Int))∧w'.cell? ⟨gl,j*2+1,none⟩=some (.int .u64 (((zb LS j).2:Nat):Int))∧w'.cell? ⟨gx,j,none⟩=some (.int .i64 ((nth XS j:Nat):Int)) from by
        obtain⟨y,h⟩:=h;obtain⟨e1,e2⟩:=zgh LS j (by rw[HSl.out];exact hj);have h1:=(h.row HRi.out HneI.out).cells (g:=gl) rfl _ _ e1;have h2:=(h.row HRi.out HneI.out).cells (g:=gl) rfl _ _ e2;have h3:=(h.row HRx.out HneX.out).cells (g:=gx) rfl j _ (zjf XS j (by rw[HXl.out];exact hj));rw[qg,Nat.zero_add] at h1 h2 h3;exact⟨h1,h2,h3⟩)
       have hE:GrwE w4 wr bV:=⟨_,hgi.out⟩;have r1:∀w',GrwE w4 w' bV→w'.cell? ⟨gl,t*2,none⟩=some (.int .u64 (((zb LS t).1:Nat):Int)):=fun w' h=>(HC.out w' h t htS).1
       have r2:∀w',GrwE w4 w' bV→w'.cell? ⟨gl,t*2+1,none⟩=some (.int .u64 (((zb LS t).2:Nat):Int)):=fun w' h=>(HC.out w' h t htS).2.1
       have r3:∀w',GrwE w4 w' bV→w'.cell? ⟨gx,t,none⟩=some (.int .i64 ((nth XS t:Nat):Int)):=fun w' h=>(HC.out w' h t htS).2.2
       have Hc':=hid (fun (h1:t - 1<S)=>show ∀w',GrwE w4 w' bV→w'.cell? ⟨gl,(t - 1)*2+1,none⟩=some (.int .u64 (((zb LS (t - 1)).2:Nat):Int)) from fun w' h=>(HC.out w' h (t - 1) h1).2.1);have hxl:=Hxl.out t htS;obtain⟨g1,g2⟩:=HDf.out t (by rw[HSl.out];exact htS);have l1:=HSlt.out _ (zbo (l:=LS) (k:=t) (by rw[HSl.out];exact htS));have Hst:=hid (yih LS XS t);have Hg:=hid (show vz LS 0 t=if t=0 then (zb LS 0).1 else (zb LS t).1 - (zb LS (t - 1)).2 - 1 - 0 from rfl);have hg0:t=0→zb LS 0=zb LS t:=fun h=>by rw[h]
       have hln:(P0++vt LS XS t).length+1≤1000000000000:=by rw[List.length_append,zgq];omega
       have hln2:(P0++vt LS XS t).length+1+2≤1000000000000:=by rw[List.length_append,zgq];omega
       have hcx:IntKind.u64.wrap ((nth XS t:Nat):Int)=((nth XS t:Nat):Int):=by rw[IntKind.wrap_u64];omega
       have hs0:w.heap.size≤wr.heap.size:=Nat.le_trans hzz hgi.out.g.size;clear HC;generalize vz LS 0 t=gp at*;generalize zb LS 0=s0 at*;generalize zb LS t=s at*;generalize zb LS (t - 1)=p at*;generalize nth XS t=sx3 at*;obtain⟨sx,sy⟩:=s;obtain⟨px,py⟩:=p;simp only at r1 r2 Hc' Hst Hg g1 g2 l1;have hsz:IntKind.u64.wrap ((sy:Int) - (sx:Int))=((sy - sx:Nat):Int):=by rw[IntKind.wrap_u64];omega
       generalize sy - sx=sz at*;generalize vt LS XS t=P1 at*;have HoW:=hid (fun W (h:Below wr.heap.size wr W)=>zm hoi.out h);rcases Nat.eq_zero_or_pos t with hd0 | hd0
       case' inl=>
        have hgp:gp=sx:=by rw[Hg.out,if_pos hd0,hg0 hd0]
        have hq1:((t:Int) == 0)=true:=by rw[beq_iff_eq];omega
        have q1:=r1 _ hE;have Hal:=hid (Below.alloc (Below.refl wr.heap.size wr) (Nat.le_refl _) (.cells #[.int .u64 gp] 64));subst hgp;clear Hc' g1 g2 l1 Hg hg0 hd0;go_wp2_with (at_builtin;refine z4o rfl (.tmp 45) (.tmp 51) rfl rfl w.heap.size _ _ _ rfl (HoW.out _ Hal.out) _ 1 1 [gp] rfl (yq (zh _ _ _ rfl) rfl rfl) hln (Nat.le_trans hs0 Hal.out.size) (by omega) ?_;intro v1 w1 ho1 hg1);have HG1:=hid (((hgi.out.below Hal.out)).trans hg1);have hE1:GrwE w4 w1 bV:=⟨_,HG1.out⟩;clear hg1 q1 Hal
       case' inr=>
        have g2:=g2 hd0;have hgp:gp=sx - py - 1:=by rw[Hg.out,if_neg (by omega)];omega
        have hq1:((t:Int) == 0)=false:=by rw[beq_eq_false_iff_ne];omega
        have hsub:IntKind.i64.wrap ((t:Int) - 1)=((t - 1:Nat):Int):=by rw[IntKind.wrap_i64];omega
        have h01:(0:Int)≤((t - 1:Nat):Int):=by omega
        have h03:((t - 1:Nat):Int)<(S:Int):=by omega
        have h0:(0:Int)≤t:=by omega
        have h04:(t:Int)<(S:Int):=by omega
        have r4:=Hc'.out (by omega);have hw1:IntKind.u64.wrap ((sx:Int) - (py:Int))=((sx - py:Nat):Int):=by rw[IntKind.wrap_u64];omega
        have hw2:IntKind.u64.wrap (((sx - py:Nat):Int) - 1)=(gp:Int):=by rw[IntKind.wrap_u64,hgp];omega
        clear Hc' g1 g2 l1 Hg hg0 hgp;generalize sx - py=t1 at*;generalize t - 1=d1 at*;go_wp2_with fail
        go_region_held3 (fun w'=>GrwE w4 w' bV) (first | assumption | exact GrwE.drew (by assumption) | exact GrwE.alloc (by assumption) _) (first
         | (refine z4p rfl (.tmp 53) (.tmp 67) rfl rfl w.heap.size _ _ _ rfl (HoW.out _ (by first | exact((Below.refl _ _).alloc (Nat.le_refl _) _).drew | exact((Below.refl _ _).drew).alloc (by simp) _)) _ 1 _ [gp] rfl (yq (by first | exact zh _ _ _ (by simp) | exact jp _ _ _ _ (zh _ _ _ (by simp))) rfl rfl) hln (by simp <;> omega) (by omega) ?_
            intro v1 w1 ho1 hg1;have HG1:=hid ((hgi.out.below (by first | exact((Below.refl _ _).alloc (Nat.le_refl _) _).drew | exact((Below.refl _ _).drew).alloc (by simp) _)).trans hg1);have hE1:GrwE w4 w1 bV:=⟨_,HG1.out⟩))
        all_goals clear hg1 r4
        all_goals go_wp2_with fail
       all_goals
        have h0:(0:Int)≤t:=by omega
        have h04:(t:Int)<(S:Int):=by omega
        have hs1:w.heap.size≤w1.heap.size:=Nat.le_trans hzz HG1.out.g.size
        go_region_held3 (fun w'=>GrwE w4 w' bV) (first | assumption | exact GrwE.drew (by assumption) | exact GrwE.alloc (by assumption) _) (first
         | (refine z4p rfl (.tmp 69) (.tmp 86) rfl rfl w.heap.size _ _ _ rfl (zm ho1 (by first | exact((Below.refl _ _).alloc (Nat.le_refl _) _).drew | exact((Below.refl _ _).drew).alloc (by simp) _)) _ 2 _ [sz,sx3] rfl (yq (by first | exact zh _ _ _ (by simp) | exact jp _ _ _ _ (zh _ _ _ (by simp))) rfl rfl) hln2 (by simp <;> omega) (by omega) ?_
            intro v2 w2 ho2 hg2;have HG2:=hid ((HG1.out.below (by first | exact((Below.refl _ _).alloc (Nat.le_refl _) _).drew | exact((Below.refl _ _).drew).alloc (by simp) _)).trans hg2);have hE2:GrwE w4 w2 bV:=⟨_,HG2.out⟩))
        all_goals
         clear hg2;go_wp2;go_roundw
         case rel=>exact⟨t+1,by omega,by go_num,HG2,by
          rw[Hst.out,←List.append_assoc,←List.append_assoc];exact z4q ho2 (by simp only[List.length_append,List.length_cons,List.length_nil])⟩
         case measure=>simp[intOf];omega
     · obtain rfl:t=S:=by omega
       have Ho:=hid hoi.out;rw[←Hend.out] at Ho;have HbF:=hid (HeB.out _ _ hgi.out);go_wp2;go_ret;exact⟨⟨_,rfl,Ho.out⟩,HbF.out⟩
