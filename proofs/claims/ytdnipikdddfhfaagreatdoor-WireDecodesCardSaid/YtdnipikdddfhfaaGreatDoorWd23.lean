/- Part 23. -/
import Derived.Test.YtdnipikdddfhfaaGreatDoorWd21
import Derived.Test.YtdnipikdddfhfaaGreatDoorWd22
set_option linter.unusedVariables false
set_option maxHeartbeats 16000000
namespace Go.Proofs.YtdnipikdddfhfaaGreatDoor
open Lib (hid)
section
open Go.RowKit
def OwnB (w:World) (base:Nat) (v:Value) (l:List Nat):Prop:=w.ownsRow base 5 1 v (yq l).length (u8s (yq l))
theorem OwnB.below {w w':World} {base:Nat} {v:Value} {l:List Nat} (h:OwnB w base v l) (hb:Below w.heap.size w w'):OwnB w' base v l:=qc h hb
theorem z1d (w:World) (base:Nat):OwnB w base (.slice none 0 0) []:=World.ownsRow_nil _ _ _ _
theorem zq6 (base:Nat) (v:Value) (n:Nat) (xs:List Nat) (A:Option Addr) (c x y:Nat) (w:World) (hown:w.ownsRow base 43 1 v n (zo xs)) (hr:Rd w 1 A 2 (zo [x,y])) (hb:n+2≤1000000) (hbase:base≤w.heap.size):
 Calls Tryz.prog 133 #[v,.slice A 2 c] w fun e w'=>(∃v',e=.returned v'∧w'.ownsRow base 43 1 v' (n+2) (zo (xs++[x,y])))∧Below base w w':=by
 obtain⟨v',w',hrun,h1,h2⟩:=zeq base v n xs hown A 2 c [x,y] hr (by omega) hbase;have Hrun:=hid hrun;have H1:=hid h1;have Hb:=hid (Below.grown (B:=base) (Below.refl _ _) h2 hbase (fun k hk=>(hown.lt k hk).1));clear hrun h1 h2 hown hr;go_enter Tryz.func133,Tryz.ntmps133;go_wp2_with (at_builtin;refine jh _ _ 41 rfl rfl _ _ rfl rfl _ _ Hrun.out ?_);go_ret;exact⟨⟨_,rfl,H1.out⟩,Hb.out⟩
set_option maxRecDepth 20000 in
theorem zlb (a:Option Addr) (n c ap:Nat) (l:List Iv) (w:World) (hI:Ivs w a n c l) (hD:zbr l ap) (hn:n≤100000) (hap:ap≤1):
 Calls Tryz.prog 90 #[.slice a n c,.int .u64 ap] w fun e w'=>(∃v,e=.returned (.tuple #[v,.bool true])∧w'.ownsRow w.heap.size 43 1 v (2*n) (zo (ky l ap)))∧Below w.heap.size w w':=by
 have HI:=hid hI;have Hl:=hid hI.len;have HD:=hid hD;have Hlt:=hid hI.lt;have Hall:=hid (show ky l ap=vt l ap n from by rw[←hI.len];rfl);clear hI hD;go_enter Tryz.func90,Tryz.ntmps90;go_wp2;go_loopw [6,7,8,9,10,11,14] (fun v _ _ _ _ _ i wr=>∃d:Nat,d≤n∧i=.int .i64 d∧Below w.heap.size w wr∧Hid (wr.ownsRow w.heap.size 43 1 v (2*d) (zo (vt l ap d)))) (fun _ _ _ _ _ _ i _=>n - (intOf i).toNat)
 case atStart=>exact⟨0,by omega,rfl,Below.refl _ _,World.ownsRow_nil _ _ _ _⟩
 case round=>
  obtain⟨d,hd,rfl,hb,ho⟩:=hrel;have Hb:=hid hb;clear hb;by_cases hdn:d<n
  · obtain⟨bl,ol,rfl⟩:=HI.out.some (by omega);have Hc:=hid (fun w' (h:Below wr.heap.size wr w')=>HI.out.at hdn w' (Hb.out.trans (h.mono Hb.out.size)));have Hc':=hid (fun (h1:d - 1<n) w' (h:Below wr.heap.size wr w')=>HI.out.at h1 w' (Hb.out.trans (h.mono Hb.out.size)));obtain⟨g1,g2⟩:=HD.out d (by rw[Hl.out];exact hdn);have l1:=(Hlt.out _ (zas (l:=l) (k:=d) (by rw[Hl.out];exact hdn)));have Hst:=hid (show vt l ap (d+1)=vt l ap d++[jq l ap d,(za l d).2 - (za l d).1] from rfl);have Hg:=hid (show jq l ap d=if d=0 then (za l 0).1 else (za l d).1 - (za l (d - 1)).2 - 1 - ap from rfl);have hg0:d=0→za l 0=za l d:=fun h=>by rw[h]
    obtain⟨q1,q2⟩:=Hc.out _ (Below.refl _ _);have h0:(0:Int)≤d:=by omega
    have h04:(d:Int)<(n:Int):=by omega
    generalize jq l ap d=gp at*;generalize za l 0=s0 at*;generalize za l d=s at*;generalize za l (d - 1)=p at*;obtain⟨sx,sy⟩:=s;obtain⟨px,py⟩:=p;simp only at q1 q2 Hc Hc' Hst Hg g1 g2 l1;have hd1:decide ((sy:Int)<(sx:Int))=false:=by rw[decide_eq_false_iff_not];omega
    have hd2:decide (sy<sx)=false:=by rw[decide_eq_false_iff_not];omega
    have hsz:IntKind.u64.wrap ((sy:Int) - (sx:Int))=((sy - sx:Nat):Int):=by rw[IntKind.wrap_u64];omega
    have hal:Below wr.heap.size wr (wr.alloc (.cells #[.int .u64 sx,.int .u64 sy] 89)):=(Below.refl _ _).alloc (Nat.le_refl _) _;have HX:=hid (zkx wr (.int .u64 sx) (.int .u64 sy) 89);have Hal:=hid hal;generalize hsz2:sy - sx=sz at*;by_cases hd0:d=0
    · have hgp:gp=sx:=by rw[Hg.out,if_pos hd0,hg0 hd0]
      have hq1:decide (0<(d:Int))=false:=by rw[decide_eq_false_iff_not];omega
      have hq2:¬0<d:=by omega
      have Ho2:=hid (qc ho.out (show Below wr.heap.size wr ((wr.alloc (.cells #[.int .u64 sx,.int .u64 sy] 89)).alloc (.cells #[.int .u64 sx,.int .u64 sz] 43)) from Hal.out.alloc Hal.out.size _));have Hb2:=hid (Hb.out.trans ((show Below wr.heap.size wr ((wr.alloc (.cells #[.int .u64 sx,.int .u64 sy] 89)).alloc (.cells #[.int .u64 sx,.int .u64 sz] 43)) from Hal.out.alloc Hal.out.size _).mono Hb.out.size));rw[hgp] at Hst;clear hal hgp hg0 hsz2 Hg g1 g2 l1 Hc' Hc hd0;go_wp2_with fail;refine(zq6 w.heap.size _ (2*d) (vt l ap d) (some ⟨wr.heap.size+1,0,none⟩) 2 sx sz _ Ho2.out (vy (yp _ _ _ (by simp)) rfl rfl) (by omega) Hb2.out.size).mono ?_;rintro e w4 ⟨⟨v',rfl,ho4⟩,hb4⟩;have Ho4:=hid ho4;have Hb4:=hid (Hb2.out.trans hb4);clear ho4 hb4;go_wp2;go_roundw
      case rel=>exact⟨d+1,by omega,by go_num,Hb4.out,by rw[Hst.out];exact Ho4.out⟩
      case measure=>simp[intOf];omega
    · have g2:=g2 (by omega);have hgp:gp=sx - py - 1 - ap:=by rw[Hg.out,if_neg hd0]
      have hq1:decide (0<(d:Int))=true:=by rw[decide_eq_true_iff];omega
      have hq2:0<d:=by omega
      have hsub:IntKind.i64.wrap ((d:Int) - 1)=((d - 1:Nat):Int):=by rw[IntKind.wrap_i64];omega
      have h01:(0:Int)≤((d - 1:Nat):Int):=by omega
      have h03:((d - 1:Nat):Int)<(n:Int):=by omega
      have Hc1:=hid (Hc'.out (by omega));have hBt:=hid (fun w=>zer py sx w (by omega) l1.1);have hlt1:decide (((sx - py - 1:Nat):Int)<(ap:Int))=false:=by rw[decide_eq_false_iff_not];omega
      have hlt2:decide (sx - py - 1<ap)=false:=by rw[decide_eq_false_iff_not];omega
      have hsub2:IntKind.u64.wrap (((sx - py - 1:Nat):Int) - (ap:Int))=(gp:Int):=by rw[IntKind.wrap_u64,hgp];omega
      have HXc:=hid (fun w' (h:Below (wr.alloc (.cells #[.int .u64 sx,.int .u64 sy] 89)).heap.size (wr.alloc (.cells #[.int .u64 sx,.int .u64 sy] 89)) w')=>And.intro (Hc1.out w' (Hal.out.trans (h.mono Hal.out.size))) (HX.out w' h));clear hal hgp hg0 hsz2 Hg g1 g2 l1 Hc' Hc Hc1 hd0;generalize sx - py - 1=bt at*;generalize d - 1=d1 at*;have Hb1:=hid (Hb.out.trans (Hal.out.mono Hb.out.size));have Ho1:=hid (qc ho.out Hal.out);clear ho HX Hal;generalize hW:wr.alloc (.cells #[.int .u64 sx,.int .u64 sy] 89)=W at*;obtain⟨-,x1,x2⟩:=HXc.out _ (Below.refl _ _);go_wp2_with fail;refine za1 (by kernel_rfl) (by kernel_rfl) ?_
      repeat (go_big_quiet_step ((intro hw;first
       | rfl
       | (obtain⟨⟨y1,y2⟩,y3,y4⟩:=HXc.out _ hw
          first
          | (go_at_call 128;refine(hBt.out _).mono ?_;rintro e w4 ⟨rfl,rfl⟩;exact⟨rfl,hw⟩)
          | (go_simp
             first | rfl | exact⟨rfl,hw⟩ | (trace_state;fail))))))
      refine wpQuiet_nil ?_;intro w3 hb3;obtain⟨-,x3,x4⟩:=HXc.out _ hb3;have hal3:Below w3.heap.size w3 (w3.alloc (.cells #[.int .u64 gp,.int .u64 sz] 43)):=(Below.refl _ _).alloc (Nat.le_refl _) _;have hb3w:=Hb1.out.trans (hb3.mono Hb1.out.size);have Hb3:=hid (hb3w.trans (hal3.mono hb3w.size));have Ho3:=hid (qc (qc Ho1.out hb3) hal3);clear hb3 hal3 hb3w x1 x2 HXc Ho1 Hb1;go_wp2_with fail;refine(zq6 w.heap.size _ (2*d) (vt l ap d) (some ⟨w3.heap.size,0,none⟩) 2 gp sz _ Ho3.out (vy (yp _ _ _ rfl) rfl rfl) (by omega) Hb3.out.size).mono ?_;rintro e w4 ⟨⟨v',rfl,ho4⟩,hb4⟩;have Ho4:=hid ho4;have Hb4:=hid (Hb3.out.trans hb4);clear ho4 hb4;go_wp2;go_roundw
      case rel=>exact⟨d+1,by omega,by go_num,Hb4.out,by rw[Hst.out];exact Ho4.out⟩
      case measure=>simp[intOf];omega
  · obtain rfl:d=n:=by omega
    have Ho:=hid ho.out;rw[←Hall.out] at Ho;go_wp2;go_ret2;exact⟨⟨_,rfl,Ho.out⟩,Hb.out⟩
end
section
structure SmallK (k:Kno):Prop where
 len:k.length≤15
 items:∀f∈k,f.1.length≤20
 vec:∀f∈k,f.2.length≤20
 holes:∀f∈k,∀e∈f.2,e.2.2.length≤30
theorem zq7 (k:Kno):(ve (k.map (·.1))).length≤1+zu k*2:=by
 unfold ve;rw[List.length_cons]
 induction k with
 | nil=>simp[zu]
 | cons f k ih=>
  rw[List.map_cons,List.flatMap_cons,List.length_append,zu];have:=zi2 f.1;omega
theorem z1e (k:Kno):(zm k).length≤1+zu k*2:=by
 refine Nat.le_trans (List.length_filter_le _ _) (Nat.le_trans ?_ (zq7 k));unfold za4;exact zdp (zes _) (fun y hy=>(zc6 _ _).1 hy)
theorem z1f (g:Bool→Bool→Bool) (a b:Vec):(doV g a b).length≤a.length+b.length:=by
 unfold doV;refine Nat.le_trans (List.length_filterMap_le _ _) ?_;unfold za3;have:=zdp (zes (a.map (·.1)++b.map (·.1))) (M:=a.map (·.1)++b.map (·.1)) (fun y hy=>(zc6 _ _).1 hy);simpa using this
theorem z1g {a b:Vec} (ha:LtV a) (hb:LtV b) (pa:a.Pairwise vg) (pb:b.Pairwise vg) (r:Nat):yb (doV gOr a b) r=opL gOr (yb a r) (yb b r):=by
 obtain⟨c1,c2,c3⟩:=zjv (g:=gOr) rfl ha hb pa pb;have ho:=zbk (g:=gOr) (zce ha r) (zce hb r) rfl;refine zgk (zj5 c2 r) ho.1 fun x=>?_
 rw[zft c2 c1.asc,c3,ho.2.1,zft ha pa,zft hb pb]
theorem z1h {v:Vec} (hl:LtV v) {m:Nat} (h:∀e∈v,e.2.2.length≤m) (r:Nat):(yb v r).length≤1+m:=by
 unfold yb;split
 · rename_i e he;have hm:=List.mem_of_find?_eq_some he;have:=zn4 (hl e hm).holes (hl e hm).max;have:=h e hm;omega
 · simp
theorem z1i {v:Vec} (ha:v.Pairwise vg) {e:Ent} (he:e∈v):yb v e.1=jo e:=by
 unfold yb
 cases hf:v.find? (fun f=>decide (f.1=e.1)) with
 | none=>exact absurd (decide_eq_true rfl) (List.find?_eq_none.1 hf e he)
 | some f=>
  have h1:=List.mem_of_find?_eq_some hf;have h2:f.1=e.1:=by have:=List.find?_some hf;exact of_decide_eq_true this
  rw[zg5 ha h1 he (by omega)]
theorem zq8 {k:Kno} (hk:LtK k) (hs:SmallK k) (x:Nat):∀d,d≤k.length→(ki k x d).length≤20*d∧∀r,(yb (ki k x d) r).length≤31*d
 | 0,_=>⟨by simp[zkf],fun r=>by simp[zkf,yb]⟩
 | d+1,h=>by
   obtain⟨h1,h2⟩:=zq8 hk hs x d (by omega);rw[zkg (by omega)];have hm:=yx (k:=k) (i:=d) (by omega);split
   · have hc:=zk5 hk x d;have hl:=zki hk x d;refine⟨?_,fun r=>?_⟩
     · have:=z1f gOr (ki k x d) (zb k d).2;have:=hs.vec _ hm;omega
     · rw[z1g hl (hk _ hm).vec hc.asc (hk _ hm).asc];have a1:=zjq (zce hl r) (zce (hk _ hm).vec r);have a2:=z1h (hk _ hm).vec (hs.holes _ hm) r;have:=h2 r;omega
   · exact⟨by omega,fun r=>by have:=h2 r;omega⟩
theorem z1j {v:Vec} (hc:CanV v) (hl:LtV v) (h1:v.length≤300) (h2:∀r,(yb v r).length≤499):VecFits v:=by
 refine⟨h1,fun e he=>?_⟩;have h3:=zwp (hl e he) (hc.ent e he);unfold zcu at h3;have h4:=zwn (zc7 (hl e he)).2.2 h3;have h5:=h2 e.1;rw[z1i hc.asc he] at h5;omega
theorem zq9 (k:Kno) (x d:Nat):ki k x d=ki k x (min d k.length):=by
 unfold ki;rw[List.take_eq_take_min]
theorem zlc {k:Kno} (hk:LtK k) (hs:SmallK k):KnoFits k:=by
 refine⟨by have:=hs.len;omega,fun f hf=>by have:=hs.items f hf;omega,fun f hf=>⟨by have:=hs.vec f hf;omega,fun e he=>by have:=hs.holes f hf e he;omega⟩,fun x d=>?_⟩;rw[zq9];obtain⟨h1,h2⟩:=zq8 hk hs x (min d k.length) (Nat.min_le_right ..);have:=hs.len;have hm:min d k.length≤15:=Nat.le_trans (Nat.min_le_right ..) hs.len;exact z1j (zk5 hk x _) (zki hk x _) (by omega) (fun r=>by have:=h2 r;omega)
theorem z1k {k:Kno} (hk:LtK k) (hs:SmallK k) (hc:ckF k=none):Joins k:=
 ⟨zlc hk hs,hk,fun f hf=>((zj0.1 hc) f hf).2,fun f hf=>((zj0.1 hc) f hf).1⟩
theorem z1l {k:Kno} (h:∀f∈k,zk f.1∧LtV f.2) (hc:ckF k=none):LtK k:=fun f hf=>⟨(h f hf).1,(h f hf).2,(zho.1 ((zj0.1 hc) f hf).2).1⟩
theorem z1m {u v:Vec} (hv:LtV v) (cv:CanV v) (h:u=[]∨u=v):doV gOr u v=v:=by
 have hu:LtV u∧u.Pairwise vg:=by
  rcases h with rfl | rfl
  · exact⟨(fun e he=>by cases he),List.Pairwise.nil⟩
  · exact⟨hv,cv.asc⟩
 obtain⟨c1,c2,c3⟩:=zjv (g:=gOr) rfl hu.1 hv hu.2 cv.asc;refine znq c1 cv fun r c=>?_
 rw[c3];rcases h with rfl | rfl
 · have:jp ([]:Vec) r c=false:=by
    rw[←Bool.not_eq_true];intro h;exact zkc h rfl
   rw[this];simp[gOr]
 · simp[gOr]
theorem zld {c:Kno} (hk:LtK c) (hc:CanK c) (x:Nat):∀d,d≤c.length→((∀j,j<d→mem (zb c j).1 x=false)∧ki c x d=[])∨∃j,j<d∧mem (zb c j).1 x=true∧ki c x d=(zb c j).2
 | 0,_=>.inl ⟨fun j h=>by omega,zkf _ _⟩
 | d+1,h=>by
   have hm:=yx (k:=c) (i:=d) (by omega);rw[zkg (by omega)];by_cases hx:mem (zb c d).1 x=true
   · rw[if_pos hx];refine .inr ⟨d,by omega,hx,z1m (hk _ hm).vec (hc.vec _ hm).1 ?_⟩;rcases zld hk hc x d (by omega) with ⟨-,h2⟩ | ⟨j,hj,h1,h2⟩
     · exact .inl h2
     · have:=hc.apart _ (yx (show j<c.length by omega)) _ hm x h1 hx;rw[h2,this];exact .inr rfl
   · rw[if_neg hx];rcases zld hk hc x d (by omega) with ⟨h1,h2⟩ | ⟨j,hj,h1,h2⟩
     · refine .inl ⟨fun j hj=>?_,h2⟩;rcases Nat.lt_or_ge j d with h3 | h3
       · exact h1 j h3
       · rw[show j=d by omega];simpa using hx
     · exact .inr ⟨j,by omega,h1,h2⟩
theorem z1n {c:Kno} (hk:LtK c) (hc:CanK c) (h1:c.length≤500) (h2:∀f∈c,f.1.length≤500) (h3:∀f∈c,VecFits f.2):KnoFits c:=by
 refine⟨h1,h2,h3,fun x d=>?_⟩;rw[zq9];rcases zld hk hc x (min d c.length) (Nat.min_le_right ..) with ⟨-,h⟩ | ⟨j,hj,-,h⟩
 · rw[h];exact⟨by simp,fun e he=>by cases he⟩
 · rw[h];have:min d c.length≤c.length:=Nat.min_le_right ..;exact h3 _ (yx (by omega))
theorem z1o (k:Kno):zu (jt k)=(vq k).length:=by
 have:∀l:List Iv,zu (l.map fun s=>([s],atK k s.1))=l.length:=fun l=>by
  induction l with
  | nil=>rfl
  | cons s l ih=>rw[List.map_cons,zu,ih,List.length_cons];simp;omega
 exact this _
theorem zra {k:Kno} (hk:LtK k) (hf:KnoFits k) {m:Nat} (hi:zu k≤m):(qt k).length≤1+m*2∧zu (qt k)≤1+m*2∧∀f∈qt k,VecFits f.2:=by
 have hp:(vq k).length≤1+m*2:=by
  have:=zx1 k;have:=zq7 k;omega
 have h1:=zko (k:=jt k) (zkd hk) (jt k).length;rw[zkl] at h1;rw[z1o] at h1;have h2:(jt k).length=(vq k).length:=by unfold jt;rw[List.length_map]
 refine⟨by unfold qt;omega,by unfold qt;omega,fun f hf'=>?_⟩
 have h3:=zph (k:=jt k) (fun f hf=>by
  unfold jt at hf;obtain⟨s,hs,rfl⟩:=List.mem_map.1 hf;obtain⟨c1,c2,_⟩:=zcv hk s.1;simp only;rw[zjw c2 c1,←zkh];exact KnoFits.at_ (by assumption) _ _) (jt k).length
 rw[zkl] at h3;exact h3 f hf'
theorem z1p {c:Kno} (hk:LtK c) (hc:CanK c) (hf:KnoFits c):Joins c:=
 ⟨hf,hk,fun f h=>zqp (hc.vec f h).1,fun f h=>(hc.items f h).1⟩
theorem z1q {k:Kno} (hk:LtK k) (hs:SmallK k) (hi:zu k≤240):Joins (qt k)∧zu (qt k)≤481∧(qt k).length≤481:=by
 obtain⟨h1,h2,h3⟩:=zra hk (zlc hk hs) hi;obtain⟨c1,c2,-⟩:=zke hk;refine⟨z1p c2 c1 (z1n c2 c1 (by omega) (fun f hf=>by have:=zez hf;omega) h3),by omega,by omega⟩
end
section
open Go.RowKit
theorem Row.ne_own {w:World} {g base sz n:Nat} {T e:TypeId} {C xs:List Value} {V:Value} (h:Row w g T C) (ho:w.ownsRow base e sz V n xs) (hT:T≠e):∀k,V.ownBlock=some k→k≠g:=by
 intro k hk e';subst e';rcases ho.2 with ⟨rfl,_⟩ | ⟨b,cap,cur,rfl,_,hh,_⟩
 · cases hk
 · have e2:b=k:=by simpa [Value.ownBlock] using hk
   subst e2;unfold Row at h;rw[hh] at h;injection h with h;injection h with _ h _;exact hT h.symm
theorem zb8 {w:World} {base base' sz sz' n n':Nat} {e e':TypeId} {V V':Value} {xs xs':List Value} (h:w.ownsRow base e sz V n xs) (h':w.ownsRow base' e' sz' V' n' xs') (hT:e≠e'):∀k,V.ownBlock=some k→V'.ownBlock≠some k:=by
 intro k hk hk';rcases h.2 with ⟨rfl,_⟩ | ⟨b,cap,cur,rfl,_,hh,_⟩
 · cases hk
 · rcases h'.2 with ⟨rfl,_⟩ | ⟨b',cap',cur',rfl,_,hh',_⟩
   · cases hk'
   · have e1:b=k:=by simpa [Value.ownBlock] using hk
     have e2:b'=k:=by simpa [Value.ownBlock] using hk'
     subst e1 e2;rw[hh] at hh';injection hh' with hh';injection hh' with _ hh' _;exact hT hh'
theorem Row.ne {w:World} {g g':Nat} {T T':TypeId} {C C':List Value} (h:Row w g T C) (h':Row w g' T' C') (hT:T≠T'):g≠g':=by
 intro e;subst e;unfold Row at h h';rw[h] at h';injection h' with h';injection h' with _ h' _;exact hT h'
def NotT (w:World) (g:Nat):Prop:=∀C T fr,w.heap[g]?=some (.cells C T fr)→¬zai T
theorem Row.notT {w:World} {g:Nat} {T:TypeId} {C:List Value} (h:Row w g T C) (hT:¬zai T):NotT w g:=by
 intro C' T' fr h';unfold Row at h;rw[h] at h';injection h' with h';injection h' with _ h' _;subst h';exact hT
theorem z1r {w:World} {g c:Nat} {es:Array MapEntry} (h:w.heap[g]?=some (.map es c)):NotT w g:=by
 intro C' T' fr h';rw[h] at h';injection h' with h';cases h'
theorem NotT.own {w:World} {g base sz n:Nat} {e:TypeId} {xs:List Value} {V:Value} (h:NotT w g) (ho:w.ownsRow base e sz V n xs) (hT:zai e):∀k,V.ownBlock=some k→k≠g:=by
 intro k hk e';subst e';rcases ho.2 with ⟨rfl,_⟩ | ⟨b,cap,cur,rfl,_,hh,_⟩
 · cases hk
 · have e2:b=k:=by simpa [Value.ownBlock] using hk
   subst e2;exact h _ _ _ hh hT
theorem zeb {w w':World} {g base:Nat} (h:NotT w g) (hb:base≤g) (hg:w.grownBy w' (some g)):Steady base zai w w':=⟨hg.size,fun k hk hp=>hg.block k hk fun e=>by
 injection e with e;subst e;rcases hp with h' | ⟨C,T,fr,hT,h'⟩
 · omega
 · exact h _ _ _ h' hT⟩
def zle (lim:Nat) (ss:List Value):Prop:=∀p n c,Value.slice (some p) n c∈ss→0<n→p.block<lim
theorem z1s {w:World} {v:Vec} {ss:List Value} (h:HolesT w 0 v ss):zle w.heap.size ss:=by
 intro p n c hm hn;obtain⟨i,hi,e⟩:=List.getElem_of_mem hm;obtain⟨a,m,d,h1,h2⟩:=h.2 i (by rw[←h.1];exact hi);rw[List.getElem?_eq_getElem hi,e] at h1;injection h1 with h1;injection h1 with h3 h4 h5;subst h3 h4;obtain⟨b,o,ha,hc⟩:=h2.ivs.cells hn;cases ha;exact zh (hc 0 hn).1
theorem ze5 {w w':World} {v:Vec} {ss:List Value} {lim:Nat} (h:HolesT w 0 v ss) (hB:zle lim ss) (hk:∀k,k<lim→k<w.heap.size→w'.heap[k]?=w.heap[k]?∨∃C T fr,T≠89∧w.heap[k]?=some (.cells C T fr)):HolesT w' 0 v ss:=by
 refine⟨h.1,fun i hi=>?_⟩;obtain⟨a,n,c,h1,h2⟩:=h.2 i hi;refine⟨a,n,c,h1,zpw h2 fun hn p hp hw=>?_⟩;subst hp;rcases hk p.block (hB p n c (List.mem_of_getElem? h1) hn) hw with h3 | ⟨C,T,fr,hT,h3⟩
 · exact h3
 · rcases h2.row hn p rfl with h4 | ⟨C',fr',h4⟩
   · omega
   · rw[h3] at h4;injection h4 with h4;injection h4 with _ h4 _;exact absurd h4 hT
def EntO (w:World) (base:Nat) (V:Value) (v:Vec) (r m:Nat) (h:List Iv):Prop:=
 ∃lim ss S,base≤lim∧lim≤w.heap.size∧w.ownsRow base 93 3 V (v.length+1) (zah v ss++[.int .u64 ((r:Nat):Int),.int .u64 ((m:Nat):Int),S])∧HolesT w 0 v ss∧zle lim ss∧w.ownsRow lim 89 2 S h.length (ivC h)
theorem EntO.later {w w':World} {base:Nat} {V:Value} {v:Vec} {r m:Nat} {h:List Iv} (hE:EntO w base V v r m h) (hb:Below w.heap.size w w'):EntO w' base V v r m h:=by
 obtain⟨lim,ss,S,h1,h2,h3,h4,h5,h6⟩:=hE;exact⟨lim,ss,S,h1,Nat.le_trans h2 hb.size,qc h3 hb,ze5 h4 h5 fun k _ hk=>.inl (hb.block k hk),h5,qc h6 hb⟩
theorem EntO.grown {w w':World} {base g:Nat} {V:Value} {v:Vec} {r m:Nat} {h:List Iv} (hE:EntO w base V v r m h) (hN:NotT w g) (hg:w.grownBy w' (some g)):EntO w' base V v r m h:=by
 obtain⟨lim,ss,S,h3,h4,h5,h6,h7,h8⟩:=hE;refine⟨lim,ss,S,h3,Nat.le_trans h4 hg.size,qs h5 fun k hk=>hg.block k (h5.lt k hk).2 fun e=>hN.own h5 (.inr (.inl rfl)) k hk (by injection e),h6.steady (zeb hN (Nat.zero_le _) hg) (.inl rfl),h7,qs h8 fun k hk=>hg.block k (h8.lt k hk).2 fun e=>hN.own h8 (.inl rfl) k hk (by injection e)⟩
theorem OwnV.grown {w w':World} {base g:Nat} {V:Value} {v:Vec} (hE:OwnV w base V v) (hN:NotT w g) (hg:w.grownBy w' (some g)):OwnV w' base V v:=by
 obtain⟨ss,h5,h6⟩:=hE;exact⟨ss,qs h5 fun k hk=>hg.block k (h5.lt k hk).2 fun e=>hN.own h5 (.inr (.inl rfl)) k hk (by injection e),h6.steady (zeb hN (Nat.zero_le _) hg) (.inl rfl)⟩
theorem EntO.at {w:World} {base:Nat} {V:Value} {v:Vec} {r m:Nat} {h:List Iv} (hE:EntO w base V v r m h):∃g cap,V=.slice (some ⟨g,0,none⟩) (v.length+1) cap∧base≤g∧g<w.heap.size∧(∃C fr,w.heap[g]?=some (.cells C 93 fr))∧w.cell? ⟨g,v.length*3,none⟩=some (.int .u64 ((r:Nat):Int))∧w.cell? ⟨g,v.length*3+1,none⟩=some (.int .u64 ((m:Nat):Int))∧
 (∀j,w.frozen? ⟨g,j,none⟩=false)∧∃S lim,w.cell? ⟨g,v.length*3+2,none⟩=some S∧base≤lim∧w.ownsRow lim 89 2 S h.length (ivC h):=by
 obtain⟨lim,ss,S,h1,h2,h3,h4,h5,h6⟩:=hE;obtain⟨g,cap,rfl,hg,hgl,hn,hm⟩:=zbq h3 (Nat.succ_pos _);have hl:=zhd h4.1
 have get:∀j u,[Value.int .u64 ((r:Nat):Int),.int .u64 ((m:Nat):Int),S][j]?=some u→w.cell? ⟨g,v.length*3+j,none⟩=some u:=fun j u hu=>by
  have:=h3.cells (g:=g) rfl (v.length*3+j) u (by rw[List.getElem?_append_right (by omega),hl,Nat.add_sub_cancel_left];exact hu);rw[yk,Nat.zero_add] at this;exact this
 refine⟨g,cap,rfl,hg,hgl,?_,get 0 _ rfl,get 1 _ rfl,fun j=>h3.frozenAt j,S,lim,get 2 _ rfl,h1,h6⟩;rcases h3.2 with ⟨h',_⟩ | ⟨g',cap',cur,h',_,hh,_⟩
 · cases h'
 · cases h';exact⟨_,_,hh⟩
theorem EntO.max {w:World} {base g cap:Nat} {v:Vec} {r m:Nat} {h:List Iv} (hE:EntO w base (.slice (some ⟨g,0,none⟩) (v.length+1) cap) v r m h) (m':Nat):EntO (w.setCell ⟨g,v.length*3+1,none⟩ (.int .u64 ((m':Nat):Int))) base (.slice (some ⟨g,0,none⟩) (v.length+1) cap) v r m' h:=by
 obtain⟨lim,ss,S,h1,h2,h3,h4,h5,h6⟩:=hE;have hl:=zhd h4.1;obtain⟨k1,k2⟩:=h3.stored (v.length*3+1) (.int .u64 ((m':Nat):Int));rw[List.set_append_right _ _ (by omega),hl,Nat.add_sub_cancel_left] at k1
 have hr:∃C fr,w.heap[g]?=some (.cells C 93 fr):=by
  rcases h3.2 with ⟨h',_⟩ | ⟨g',cap',cur,h',_,hh,_⟩
  · cases h'
  · cases h';exact⟨_,_,hh⟩
 obtain⟨C,fr,hr⟩:=hr;refine⟨lim,ss,S,h1,by simpa using h2,k1,ze5 h4 h5 fun k _ hk=>?_,h5,qs h6 fun k hk=>k2.block k (h6.lt k hk).2 fun e=>zb8 h3 h6 (by decide) g rfl (by injection e with e;subst e;exact hk)⟩;by_cases e:k=g
 · subst e;exact .inr ⟨C,93,fr,by decide,hr⟩
 · exact .inl (k2.block k hk fun e'=>e (by injection e'))
theorem EntO.hole {w:World} {base g cap:Nat} {v:Vec} {r m:Nat} {h:List Iv} (hE:EntO w base (.slice (some ⟨g,0,none⟩) (v.length+1) cap) v r m h) {S:Value} (hS:w.cell? ⟨g,v.length*3+2,none⟩=some S) (s:Iv) (W:World) (hW:Below w.heap.size w W) (A:Option Addr) (c:Nat) (hr:Rd W 2 A 1 (ivC [s])) (hb:h.length+1≤1000000000000):
 ∃S' w',(Builtin.append_ #[91,91] 91 #[S,.slice A 1 c]).run Tryz.prog W=.ok S' w'∧(∃gS cS,S'=.slice (some ⟨gS,0,none⟩) (h.length+1) cS)∧Below base W w'∧W.heap.size≤w'.heap.size∧w'.cell? ⟨g,v.length*3+2,none⟩=some S∧w'.frozen? ⟨g,v.length*3+2,none⟩=false∧W.grownBy w' S.ownBlock∧(∀k,S.ownBlock=some k→base≤k∧∃C fr,W.heap[k]?=some (.cells C 89 fr))∧
  ∀w2,w'.grownBy w2 none→EntO (w2.setCell ⟨g,v.length*3+2,none⟩ S') base (.slice (some ⟨g,0,none⟩) (v.length+1) cap) v r m (h++[s]):=by
 have hE':=hE.later hW;obtain⟨lim,ss,S0,h1,h2,h3,h4,h5,h6⟩:=hE;have hl:=zhd h4.1
 have e0:S0=S:=by
  have:=h3.cells (g:=g) rfl (v.length*3+2) S0 (by rw[List.getElem?_append_right (by omega),hl,Nat.add_sub_cancel_left];rfl);rw[yk,Nat.zero_add,hS] at this;injection this with this;exact this.symm
 subst e0;have k3:=qc h3 hW;have k6:=qc h6 hW;have k4:HolesT W 0 v ss:=ze5 h4 h5 fun k _ hk=>.inl (hW.block k hk)
 obtain⟨S',w',hrun,ho,hg,hat⟩:=zh5 lim S0 h.length h k6 A c s hr hb (Nat.le_trans h2 hW.size);have hne:S0.ownBlock≠some g:=fun e=>zb8 k3 k6 (by decide) g rfl e
 have e3:w'.ownsRow base 93 3 (.slice (some ⟨g,0,none⟩) (v.length+1) cap) (v.length+1) (zah v ss++[.int .u64 ((r:Nat):Int),.int .u64 ((m:Nat):Int),S0]):=qs k3 fun k hk=>by
  have e:g=k:=by simpa [Value.ownBlock] using hk
  subst e;exact hg.block g (k3.lt g rfl).2 fun e=>hne e.symm
 have e4:HolesT w' 0 v ss:=ze5 k4 h5 fun k hk hw=>.inl (hg.block k hw fun e=>by
  have:=(k6.lt k e.symm).1;omega)
 have hat2:∀k,S0.ownBlock=some k→base≤k∧∃C fr,W.heap[k]?=some (.cells C 89 fr):=fun k hk=>⟨Nat.le_trans h1 (k6.lt k hk).1,by
  rcases k6.2 with ⟨rfl,_⟩ | ⟨b,cap',cur,rfl,_,hh,_⟩
  · cases hk
  · have e:b=k:=by simpa [Value.ownBlock] using hk
    subst e;exact⟨_,_,hh⟩⟩
 have hcell:w'.cell? ⟨g,v.length*3+2,none⟩=some S0:=by
  have:=e3.cells (g:=g) rfl (v.length*3+2) S0 (by rw[List.getElem?_append_right (by omega),hl,Nat.add_sub_cancel_left];rfl);rw[yk,Nat.zero_add] at this;exact this
 obtain⟨gS,cS,eS,-⟩:=zbq ho (Nat.succ_pos _);refine⟨S',w',hrun,⟨gS,cS,eS⟩,⟨hg.os,hg.tape,hg.output,hg.size,fun k hk=>hg.block k (by have:=hW.size;omega) fun e=>by have:=(hat2 k e.symm).1;omega⟩,hg.size,hcell,e3.frozenAt _,hg,hat2,fun w2 h2'=>?_⟩;have f3:w2.ownsRow base 93 3 (.slice (some ⟨g,0,none⟩) (v.length+1) cap) (v.length+1) (zah v ss++[.int .u64 ((r:Nat):Int),.int .u64 ((m:Nat):Int),S0]):=qs e3 fun k hk=>h2'.block k (e3.lt k hk).2 (by simp)
 have f6:w2.ownsRow lim 89 2 S' (h.length+1) (ivC (h++[s])):=qs ho fun k hk=>h2'.block k (ho.lt k hk).2 (by simp)
 have f4:HolesT w2 0 v ss:=ze5 e4 h5 fun k _ hk=>.inl (h2'.block k hk (by simp))
 obtain⟨k1,k2⟩:=f3.stored (v.length*3+2) S';rw[List.set_append_right _ _ (by omega),hl,Nat.add_sub_cancel_left] at k1
 have hrow:∃C fr,w2.heap[g]?=some (.cells C 93 fr):=by
  rcases f3.2 with ⟨h',_⟩ | ⟨g',cap',cur,h',_,hh,_⟩
  · cases h'
  · cases h';exact⟨_,_,hh⟩
 obtain⟨C,fr,hrow⟩:=hrow;refine⟨lim,ss,S',h1,Nat.le_trans h2 (Nat.le_trans hW.size (Nat.le_trans hg.size (Nat.le_trans h2'.size k2.size))),k1,ze5 f4 h5 fun k _ hk=>?_,h5,?_⟩
 · by_cases e:k=g
   · subst e;exact .inr ⟨C,93,fr,by decide,hrow⟩
   · exact .inl (k2.block k hk fun e'=>e (by injection e'))
 · have hne2:∀k,S'.ownBlock=some k→k≠g:=fun k hk e=>zb8 f3 f6 (by decide) g rfl (by rw[←e];exact hk)
   have f7:=qs (w':=w2.setCell ⟨g,v.length*3+2,none⟩ S') f6 fun k hk=>k2.block k (f6.lt k hk).2 fun e=>hne2 k hk (by injection e)
   have e7:(h++[s]).length=h.length+1:=by simp
   rw[e7];exact f7
theorem EntO.close {w:World} {base:Nat} {V:Value} {v:Vec} {r m:Nat} {h:List Iv} (hE:EntO w base V v r m h) (hl:zk h):OwnV w base V (v++[(r,m,h)]):=by
 obtain⟨lim,ss,S,h1,h2,h3,h4,h5,h6⟩:=hE;obtain⟨a,c,rfl,hI⟩:=zda (base':=0) h6 hl;refine⟨ss++[.slice a h.length c],?_,h4.snoc (e:=(r,m,h)) hI⟩;rw[zhe h4.1,List.length_append];exact h3
theorem OwnV.open {w:World} {base:Nat} {V:Value} {v:Vec} (hV:OwnV w base V v) (r:Nat) (A:Option Addr) (c:Nat) (hr:Rd w 3 A 1 [.int .u64 ((r:Nat):Int),.int .u64 0,.slice none 0 0]) (hb:v.length+1≤1000000000000) (hbase:base≤w.heap.size):
 ∃V' w',(Builtin.append_ #[95,95] 95 #[V,.slice A 1 c]).run Tryz.prog w=.ok V' w'∧EntO w' base V' v r 0 []∧w.grownBy w' V.ownBlock∧(∀k,V.ownBlock=some k→base≤k):=by
 obtain⟨ss,ho,hh⟩:=hV;obtain⟨V',w',h1,h2,h3⟩:=zbi base _ _ _ _ 3 40 Tryz.underlying95 Tryz.info_ent rfl (by omega) V v.length _ ho A 1 c _ hr (by simp[Value.oneCell']) (by unfold maxLen;omega) (by omega) hbase;have hs:Steady base zat w w':=.grown ho h3 (show ¬(93:TypeId)=89 by decide);exact⟨V',w',h1,⟨w.heap.size,ss,.slice none 0 0,hbase,h3.size,h2,hh.steady (hs.lower (Nat.zero_le _)) rfl,z1s hh,World.ownsRow_nil _ _ _ _⟩,h3,fun k hk=>(ho.lt k hk).1⟩
def HoldR (B p:Nat) (C:Obj) (wA w':World):Prop:=Below B wA w'∧w'.heap[p]?=some C
theorem HoldR.refl {B p:Nat} {C:Obj} {wA:World} (h:wA.heap[p]?=some C):HoldR B p C wA wA:=⟨Below.refl _ _,h⟩
theorem HoldR.le {B p:Nat} {C:Obj} {wA w':World} (h:HoldR B p C wA w'):wA.heap.size≤w'.heap.size:=h.1.size
theorem HoldR.drew {B p:Nat} {C:Obj} {wA w':World} (h:HoldR B p C wA w'):HoldR B p C wA w'.drew:=⟨h.1.drew,h.2⟩
theorem HoldR.alloc {B p:Nat} {C:Obj} {wA w':World} (h:HoldR B p C wA w') (hB:B≤wA.heap.size) (o:Obj):HoldR B p C wA (w'.alloc o):=⟨h.1.alloc (Nat.le_trans hB h.1.size) o,qg h.2⟩
theorem HoldR.below {B p:Nat} {C:Obj} {wA w' w'':World} (h:HoldR B p C wA w') (hB:B≤wA.heap.size) (hb:Below w'.heap.size w' w''):HoldR B p C wA w'':=
 ⟨h.1.trans (hb.mono (Nat.le_trans hB h.1.size)),(hb.block p (Array.getElem?_eq_some_iff.1 h.2).1).trans h.2⟩
theorem HoldR.grown {B p:Nat} {C:Obj} {wA w' w'':World} {row:Option Nat} (h:HoldR B p C wA w') (hB:B≤wA.heap.size) (hg:w'.grownBy w'' row) (hr:∀j,row=some j→B≤j∧j<p):HoldR B p C wA w'':=
 ⟨h.1.grown hg (Nat.le_trans hB h.1.size) (fun j hj=>(hr j hj).1),(hg.block p (Array.getElem?_eq_some_iff.1 h.2).1 (fun e=>by have:=(hr p e.symm).2;omega)).trans h.2⟩
set_option maxRecDepth 20000 in
theorem z1t (a:Option Addr) (n cap:Nat) (k:Kno) (w:World) (hE:Frags w a n cap k) (hJ:Joins k) (hS:(zm k).length≤10000):
 Calls Tryz.prog 127 #[.slice a n cap] w fun x w'=>(∃y,x=.returned y∧OwnK w' w.heap.size 0 y (jt k))∧Below w.heap.size w w':=by
 have HE:=hid hE;have HJ:=hid hJ;have hC:=hid (z0e a n cap k w hE hJ.lt hJ.fits hJ.good hS);have Hall:=hid (zxu k)
 have HLn:=hid (show (vq k).length≤10000 from by
  have h1:=zhs k (zm k).length;rw[zhr] at h1;omega)
 have hPl:zk (vq k):=fun s hs=>by
  have:=zhi hJ.lt hs;exact⟨by omega,this.2.1⟩
 have HPl:=hid hPl;clear hE hJ hS hPl;go_enter Tryz.func127,Tryz.ntmps127;go_wp2_with fail;refine hC.out.mono ?_;rintro e w1 ⟨⟨v,rfl,ho⟩,hb1⟩;have Hb1:=hid hb1;obtain⟨aU,cU,rfl,hU⟩:=zbd ho HPl.out;have HU:=hid hU;clear hb1 ho hU hC;obtain⟨N,hN⟩:∃N,N=(vq k).length:=⟨_,rfl⟩;have HN:=hid hN;rw[←hN] at HU HLn Hall ⊢;clear hN;have hN2:N≤10000:=HLn.out;go_wp2;go_loopw [3,5,9] (fun y _ i wr=>∃d:Nat,d≤N∧i=.int .i64 d∧Below w1.heap.size w1 wr∧Hid (OwnK wr w1.heap.size 0 y (zcw k d))) (fun _ _ i _=>N - (intOf i).toNat)
 case atStart=>exact⟨0,by omega,rfl,Below.refl _ _,zo9 _ _ _⟩
 case round=>
  obtain⟨d,hd,rfl,hb,ho⟩:=hrel;have Hb:=hid hb;clear hb;have Hbw:=hid (Hb1.out.trans (Hb.out.mono Hb1.out.size));by_cases hdN:d<N
  · have hcl:=HU.out.room;have HUr:=HU.out.below Hb.out;obtain⟨bS,oS,rfl,hcS⟩:=HUr.cells (by omega);obtain⟨q1,q2⟩:=hcS d hdN;have Hst:=hid (zxt (k:=k) (d:=d) (by rw[←HN.out];exact hdN));have Hpl:=hid (zxv k d);rw[←HN.out] at Hpl;have Hs:=hid (HPl.out _ (zas (show d<(vq k).length by rw[←HN.out];exact hdN)));generalize zcw k d=R0 at*;generalize za (vq k) d=s at*;obtain⟨sx,sy⟩:=s;simp only at q1 q2 Hst Hs;have hz0:w.heap.size≤w1.heap.size:=Hb1.out.size;have hz1:w1.heap.size≤wr.heap.size:=Hb.out.size;have Hlv:=hid (zcv HJ.out.lt sx).2.1;have hrA:(wr.alloc (.cells #[.int .u64 sx,.int .u64 sy] 89)).heap[wr.heap.size]?=some (.cells #[.int .u64 sx,.int .u64 sy] 89):=yh rfl;have hal:Below wr.heap.size wr (wr.alloc (.cells #[.int .u64 sx,.int .u64 sy] 89)):=(Below.refl _ _).alloc (Nat.le_refl _) _;have hoA:=ho.out.below hal;have HlA:=hid (ho.out.lt);have HbA:=hid (Hb.out.trans (hal.mono hz1));have hsA:(wr.alloc (.cells #[.int .u64 sx,.int .u64 sy] 89)).heap.size=wr.heap.size+1:=by simp
    have h0:(0:Int)≤d:=by omega
    have h04:(d:Int)<(N:Int):=by omega
    clear hcS HUr hal;go_wp2_with fail;clear q1 q2;obtain⟨p,hp⟩:∃p,p=wr.heap.size:=⟨_,rfl⟩;rw[←hp] at hrA hsA HlA ⊢;generalize wr.alloc (.cells #[.int .u64 sx,.int .u64 sy] 89)=wA at*;have Hp:=hid hp;have hpz:w1.heap.size≤p:=by omega
    have hzA:w1.heap.size≤wA.heap.size:=by omega
    have HoA:=hid hoA;have HrA:=hid hrA;have HsA:=hid hsA;clear hp hoA hz1;have r1:∀w',HoldR w1.heap.size p (.cells #[.int .u64 sx,.int .u64 sy] 89) wA w'→w'.cell? ⟨p,0,none⟩=some (.int .u64 sx):=fun w' h=>zx h.2 rfl
    have r2:∀w',HoldR w1.heap.size p (.cells #[.int .u64 sx,.int .u64 sy] 89) wA w'→w'.cell? ⟨p,1,none⟩=some (.int .u64 sy):=fun w' h=>zx h.2 rfl
    have hAt:=hid (fun w' (h:HoldR w1.heap.size p (.cells #[.int .u64 sx,.int .u64 sy] 89) wA w')=>z0w a n cap sx k w' (HE.out.below (Hb1.out.trans ((HbA.out.trans h.1).mono hz0))) HJ.out);generalize atK k sx=V at*;have hR0:HoldR w1.heap.size p (.cells #[.int .u64 sx,.int .u64 sy] 89) wA wA:=HoldR.refl hrA;clear hrA hsA
    go_region_held3 (fun w'=>HoldR w1.heap.size p (.cells #[.int .u64 sx,.int .u64 sy] 89) wA w') (first | assumption | exact HoldR.drew (by assumption) | exact HoldR.alloc (by assumption) hzA _) (first
     | (go_at_call 175
        refine(hAt.out _ (by assumption)).mono ?_;rintro e w4 ⟨⟨y4,rfl,ho4⟩,hb4⟩;have hS4:HoldR w1.heap.size p (.cells #[.int .u64 sx,.int .u64 sy] 89) wA w4:=HoldR.below (by assumption) hzA hb4;have hT4:Below wA.heap.size wA w4:=Below.trans (by first | exact(Below.refl _ _).drew | exact((Below.refl _ _).drew).alloc (by simp) _ | exact((Below.refl _ _).alloc (Nat.le_refl _) _).drew) (hb4.mono (HoldR.le (B:=w1.heap.size) (p:=p) (C:=.cells #[.int .u64 sx,.int .u64 sy] 89) (by assumption)));have Ho4:=hid (HoA.out.below hT4);obtain⟨ya,yc,rfl,hV⟩:=ho4.toOwnV.entsT (base':=0) Hlv.out;have HV:=hid hV
        first
         | (have zr:=zxx hb4)
         | (have zr:=zxy hb4)
         | skip
        clear hb4 ho4 hV hT4)
     | (refine zx8 rfl (.tmp 13) (.tmp 21) rfl rfl w1.heap.size 0 _ R0 rfl (Ho4.out.below (by first | exact(Below.refl _ _).alloc (Nat.le_refl _) _ | exact((Below.refl _ _).alloc (Nat.le_refl _) _).alloc (by simp) _)) _ 1 1 [([(sx,sy)],V)] rfl [(_,_)] (zo8 (zxw (s:=(sx,sy)) (by first | exact zdv _ _ _ _ (yp _ _ _ rfl) | exact zdv _ _ _ _ zr) Hs.out 0) ⟨_,_,_,rfl,HV.out.steady (P:=fun _=>True) (.of_below (by first | exact(Below.refl _ _).alloc (Nat.le_refl _) _ | exact((Below.refl _ _).alloc (Nat.le_refl _) _).alloc (by simp) _)) trivial trivial⟩) rfl (vy (yp _ _ _ (by simp)) rfl rfl) (by have:=Hpl.out;simp;omega) (by have:=hS4.1.size;simp;omega) (Nat.zero_le _) ?_
        intro v8 w8 ho8 hg8 _;have hS8:HoldR w1.heap.size p (.cells #[.int .u64 sx,.int .u64 sy] 89) wA w8:=HoldR.grown (by assumption) hzA hg8 (fun j hj=>HlA.out j hj)))
    all_goals
     go_wp2;go_roundw
     case rel=>exact⟨d+1,by omega,by go_num,HbA.out.trans hS8.1,by rw[Hst.out];exact ho8⟩
     case measure=>simp[intOf];omega
  · obtain rfl:d=N:=by omega
    have Ho:=hid ho.out;rw[Hall.out] at Ho;go_wp2;go_ret;exact⟨⟨_,rfl,Ho.out.lower Hb1.out.size⟩,Hbw.out⟩
end
section
open Go.RowKit
attribute [local go_sem] zad
def zgc (w:World) (g ap lo d:Nat) (last:Option Iv) (e:Ending) (w':World):Prop:=
 if lo+d<18446744073709551616 then e=.returned (.tuple #[ivV (lo,lo+d),.bool true])∧Row w' g 193 (jj g ap lo (some (lo,lo+d)) false)∧w.grownBy w' (some g)
 else e=.returned (.tuple #[ivV (0,0),.bool false])∧Row w' g 193 (jj g ap lo last true)∧w.grownBy w' (some g)
set_option maxRecDepth 20000 in
theorem zrb (g ap lo d:Nat) (last:Option Iv) (w:World) (h:Row w g 193 (jj g ap lo last true)) (hlo:lo<18446744073709551616) (hd:d<18446744073709551616):
 Calls Tryz.prog 151 #[.pointer (some ⟨g,0,none⟩),.int .u64 (d:Int)] w (zgc w g ap lo d last):=by
 have q1:=fun o=>(h.later ((Below.refl _ _).alloc (Nat.le_refl _) o)).cell 1 rfl
 have q5:=fun o=>(h.later ((Below.refl _ _).alloc (Nat.le_refl _) o)).cell 5 rfl
 have h64:∀x∈[lo,d],x<18446744073709551616:=fun x hx=>by
  simp only[List.mem_cons,List.not_mem_nil,or_false] at hx;rcases hx with rfl | rfl <;> assumption
 have hsum:[lo,d].sum=lo+d:=by simp only[List.sum_cons,List.sum_nil,Nat.add_zero]
 have H:=hid h;have H64:=hid h64;have Hal:Below w.heap.size w (w.alloc (.cells #[.int .u64 0,.int .u64 0] 89)):=(Below.refl _ _).alloc (Nat.le_refl _) _;have Ha:=hid Hal;have HX:=hid (ju w 89 [.int .u64 0,.int .u64 0]);clear hlo hd h64 Hal;by_cases hc:lo+d<18446744073709551616
 · have Hr:=hid (fun e w'=>show zgc w g ap lo d last e w'=_ from if_pos hc);have hv:jl [lo,d].sum=.tuple #[.int .u64 ((lo+d:Nat):Int),.bool true]:=by rw[hsum];exact zf9 hc
   have HS:=hid (fun W g hW=>ze4 [lo,d] W g 2 hW rfl H64.out (by omega) hv);clear hc hsum hv;generalize lo+d=S at*;go_enter Tryz.func151,Tryz.ntmps151;go_wp2_with fail;refine(HS.out _ (w.heap.size+1) (by exact yp _ _ _ (by simp))).mono ?_;rintro e w1 ⟨rfl,hb1⟩;have hb2:=(Below.refl _ _).alloc (Nat.le_refl _) _ |>.trans (hb1.mono (by simp))
   have hX:=HX.out.later hb2;have x0:=hX.cell 0 rfl;have x1:=hX.cell 1 rfl;have y0:=hX.fz 0;have y1:=hX.fz 1;have h1:=H.out.later (Ha.out.trans (hb2.mono (by simp)));have p1:=h1.cell 1 rfl;have p2:=h1.cell 2 rfl;have p3:=h1.cell 3 rfl;have p4:=h1.cell 4 rfl;have p5:=h1.cell 5 rfl;have p6:=h1.cell 6 rfl;have z2:=h1.fz 2;have z3:=h1.fz 3;have z4:=h1.fz 4;have z5:=h1.fz 5;have z6:=h1.fz 6;have hne:¬g=w.heap.size:=by have:=H.out.lt;omega
   have HF:=hid (show Row (((((w1.setCell ⟨g,2,none⟩ (.int .u64 (lo:Int))).setCell ⟨g,3,none⟩ (.int .u64 (S:Int))).setCell ⟨g,4,none⟩ (.bool true)).setCell ⟨g,5,none⟩ (.bool false)).setCell ⟨g,6,none⟩ (ze3 g (some (lo,S)))) g 193 (jj g ap lo (some (lo,S)) false) from Row.set (Row.set (Row.set (Row.set (h1.set 2 _) 3 _) 4 _) 5 _) 6 _);have Hb1:=hid (Ha.out.trans (hb2.mono (by simp)));have G1:=zn (a:=⟨g,2,none⟩) (zh7 (r:=some g) Hb1.out rfl) (.int .u64 (lo:Int)) (.inr rfl);have G2:=zn (a:=⟨g,3,none⟩) G1 (.int .u64 (S:Int)) (.inr rfl);have G3:=zn (a:=⟨g,4,none⟩) G2 (.bool true) (.inr rfl);have G4:=zn (a:=⟨g,5,none⟩) G3 (.bool false) (.inr rfl);have G5:=zn (a:=⟨g,6,none⟩) G4 (ze3 g (some (lo,S))) (.inr rfl);have G6:=zn (a:=⟨w.heap.size,0,none⟩) G5 (.int .u64 (lo:Int)) (.inl (Nat.le_refl _));have HG:=hid (zn (a:=⟨w.heap.size,1,none⟩) G6 (.int .u64 (S:Int)) (.inl (Nat.le_refl _)));clear h1 hb1 hb2 hX q1 q5 G1 G2 G3 G4 G5 G6;simp only[ze3] at HF HG;go_wp2_with fail;refine bodyPost_ret (v:=.tuple #[ivV (lo,S),.bool true]) (by simp[results,Tryz.results151,go_sem,ivV,x0,x1]) rfl ?_;rw[Hr.out];exact⟨rfl,(HF.out.other (a:=⟨w.heap.size,0,none⟩) hne _).other (a:=⟨w.heap.size,1,none⟩) hne _,HG.out⟩
 · have Hr:=hid (fun e w'=>show zgc w g ap lo d last e w'=_ from if_neg hc);have hv:jl [lo,d].sum=.tuple #[.int .u64 0,.bool false]:=by rw[hsum];exact zga hc
   have HS:=hid (fun W g hW=>ze4 [lo,d] W g 2 hW rfl H64.out (by omega) hv);clear hc hsum hv;go_enter Tryz.func151,Tryz.ntmps151;go_wp2_with fail;refine(HS.out _ (w.heap.size+1) (by exact yp _ _ _ (by simp))).mono ?_;rintro e w1 ⟨rfl,hb1⟩;have hb2:=(Below.refl _ _).alloc (Nat.le_refl _) _ |>.trans (hb1.mono (by simp))
   have hX:=HX.out.later hb2;have x0:=hX.cell 0 rfl;have x1:=hX.cell 1 rfl;have y0:=hX.fz 0;have y1:=hX.fz 1;have HF:=hid (H.out.later (Ha.out.trans (hb2.mono (by simp))));have hne:¬g=w.heap.size:=by have:=H.out.lt;omega
   have Hb1:=hid (Ha.out.trans (hb2.mono (by simp)));have G1:=zn (a:=⟨w.heap.size,0,none⟩) (zh7 (r:=some g) Hb1.out rfl) (.int .u64 0) (.inl (Nat.le_refl _));have HG:=hid (zn (a:=⟨w.heap.size,1,none⟩) G1 (.int .u64 0) (.inl (Nat.le_refl _)));clear hb1 hb2 hX q1 q5 G1;go_wp2_with fail;refine bodyPost_ret (v:=.tuple #[ivV (0,0),.bool false]) (by simp[results,Tryz.results151,go_sem,ivV,x0,x1]) rfl ?_;rw[Hr.out];exact⟨rfl,(HF.out.other (a:=⟨w.heap.size,0,none⟩) hne _).other (a:=⟨w.heap.size,1,none⟩) hne _,HG.out⟩
theorem zrc (g ap lo:Nat) (last:Option Iv) (op:Bool) (w:World) (h:Row w g 193 (jj g ap lo last op)):
 Calls Tryz.prog 149 #[.pointer (some ⟨g,0,none⟩)] w fun e w'=>e=.returned (.tuple #[ivV (last.getD (0,0)),.bool last.isSome])∧Below w.heap.size w w':=by
 have q2:=fun o=>(h.later ((Below.refl _ _).alloc (Nat.le_refl _) o)).cell 2 rfl
 have q3:=fun o=>(h.later ((Below.refl _ _).alloc (Nat.le_refl _) o)).cell 3 rfl
 have q4:=fun o=>(h.later ((Below.refl _ _).alloc (Nat.le_refl _) o)).cell 4 rfl
 clear h;generalize last.isSome=b at*;generalize last.getD (0,0)=s at*;obtain⟨s1,s2⟩:=s;simp only at q2 q3;go_enter Tryz.func149,Tryz.ntmps149;go_wp2;go_region
 all_goals go_wp2
 all_goals exact bodyPost_ret (v:=.tuple #[ivV (s1,s2),.bool b]) (by simp[results,Tryz.results149,go_sem,ivV]) rfl ⟨rfl,((Below.refl _ _).alloc (Nat.le_refl _) _).drew⟩
end
