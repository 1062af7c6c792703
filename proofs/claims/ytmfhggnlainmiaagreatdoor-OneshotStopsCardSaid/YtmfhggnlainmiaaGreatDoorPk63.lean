/- Part 63. -/
import Derived.Test.YtmfhggnlainmiaaGreatDoorPk62
set_option linter.unusedVariables false
set_option maxHeartbeats 16000000
namespace Go.Proofs.YtmfhggnlainmiaaGreatDoor
open Lib (hid)
section
open Go.RowKit
set_option maxRecDepth 20000 in
theorem zu4 (a:Option Addr) (n cap:Nat) (k:Kno) (w:World) (hE:Frags w a n cap k):
 Calls Tryz.prog 30 #[.slice a n cap] w fun x w'=>x=.returned (.tuple #[.int .i64 (je (qk (ckF k))),.int .i64 (j9 (qk (ckF k)))])∧Below w.heap.size w w':=by
 have HE:=hid hE;have Hl:=hid hE.len;have hm:n≤9223372036854775807:=Nat.le_trans hE.room hE.most;have Hck:=hid (show ckF k=j7 (ze5 k) k.length from rfl);clear hE;go_enter Tryz.func30,Tryz.ntmps30;go_wp2;go_loopw [4,5,6] (fun i _ _ wr=>∃d:Nat,d≤n∧i=.int .i64 d∧Below w.heap.size w wr∧Hid (∀j,j<d→ze5 k j=none)) (fun i _ _ _=>n - (intOf i).toNat)
 case atStart=>exact⟨0,by omega,rfl,Below.refl _ _,fun j h=>by omega⟩
 case round=>
  obtain⟨d,hd,rfl,hb,ht⟩:=hrel;have Hb:=hid hb;clear hb;by_cases hdn:d<n
  · have hdk:d<k.length:=by rw[Hl.out];exact hdn
    have HEr:=hid (HE.out.below Hb.out);obtain⟨bb,oo,rfl⟩:=HEr.out.some (by omega);obtain⟨x,m,c,y,m',c',hq⟩:=HEr.out.fix hdn;have Hq:=hid hq;have Hat:=hid (show ze5 k d=match ck (za k d).1 with | some x=>some (x.1,d) | none=>match ckV (za k d).2 with | some x=>some (x.1,d) | none=>none from rfl);have hC:=hid (fun w' h=>z4a x m c (za k d).1 w' (hq w' h).2.1);have hV:=hid (fun w' h=>z4e y m' c' (za k d).2 w' (hq w' h).2.2.2);have h0:(0:Int)≤d:=by omega
    have h04:(d:Int)<(n:Int):=by omega
    obtain⟨q1,-,q2,-⟩:=hq _ (Below.refl _ _);clear hq;generalize za k d=f at*
    cases h:ck f.1 with
    | some z=>
     have hc0:=zlc h;obtain⟨cd,ci⟩:=z;rw[h] at Hat hC;simp only[qk,je,j9] at Hat hC;have hne:((cd:Int) != 0)=true:=by rw[bne_iff_ne];simp at hc0;omega
     have heq:((cd:Int) == 0)=false:=by rw[beq_eq_false_iff_ne];simp at hc0;omega
     have Hr:=hid (zbb hdk ht.out Hat.out);clear h hc0 hV;go_wp2_with fail;refine(hC.out _ (Below.refl _ _)).mono ?_;rintro z w1 ⟨rfl,hb1⟩;have Hb1:=hid hb1;clear hb1;go_wp2;go_ret2
     exact⟨by rw[Hck.out,Hr.out];rfl,Hb.out.trans (Hb1.out.mono Hb.out.size)⟩
    | none=>
     rw[h] at Hat hC;simp only[qk,je,j9] at Hat hC;clear h;go_wp2_with fail;refine(hC.out _ (Below.refl _ _)).mono ?_;rintro z w1 ⟨rfl,hb1⟩;have Hb1:=hid hb1;clear hb1 q1 q2;obtain⟨q1,-,q2,-⟩:=Hq.out _ Hb1.out;have Hw1:=hid (Hb.out.trans (Hb1.out.mono Hb.out.size))
     cases h:ckV f.2 with
     | some z=>
      have hc0:=zny h;obtain⟨cd,ci⟩:=z;rw[h] at Hat hV;simp only[qk,je,j9] at Hat hV;have hne:((cd:Int) != 0)=true:=by rw[bne_iff_ne];simp at hc0;omega
      have Hr:=hid (zbb hdk ht.out Hat.out);clear h hc0;go_wp2_with fail;refine(hV.out _ Hb1.out).mono ?_;rintro z w2 ⟨rfl,hb2⟩;have Hb2:=hid hb2;clear hb2;go_wp2;go_ret2
      exact⟨by rw[Hck.out,Hr.out];rfl,Hw1.out.trans (Hb2.out.mono Hw1.out.size)⟩
     | none=>
      rw[h] at Hat hV;simp only[qk,je,j9] at Hat hV;have Hr:=hid (zdb ht.out Hat.out);clear h;go_wp2_with fail;refine(hV.out _ Hb1.out).mono ?_;rintro z w2 ⟨rfl,hb2⟩;have Hb2:=hid hb2;clear hb2;go_wp2;go_roundw
      case rel=>exact⟨d+1,by omega,by go_num,Hw1.out.trans (Hb2.out.mono Hw1.out.size),Hr.out⟩
      case measure=>simp[intOf];omega
  · obtain rfl:d=n:=by omega
    have Hr:=hid (zbs (n:=k.length) (fun j hj=>ht.out j (by rw[←Hl.out];exact hj)));go_wp2;go_ret2;exact⟨by rw[Hck.out,Hr.out];rfl,by first | exact Hb.out | exact z7 Hb.out _⟩
theorem zm6 {p:Nat→Prop} {d:Nat} (h:∀j,j<d→p j) (hd:p d):∀j,j<d+1→p j:=fun j hj=>by
 by_cases e:j=d
 · rw[e];exact hd
 · exact h j (by omega)
def zf7 (f:Frg):Bool:=decide (f.1.length≤20) && zkw f.2
def zcm (k:Kno):Bool:=k.all zf7 && decide (k.length≤12)
theorem yij {k:Kno} {p:Frg→Bool} {i:Nat} (hi:i<k.length) (h:p (za k i)=false):k.all p=false:=by
 rw[Bool.eq_false_iff];intro h2;rw[List.all_eq_true.1 h2 _ (yh hi)] at h;cases h
theorem yik {k:Kno} {p:Frg→Bool} (h:∀i,i<k.length→p (za k i)=true):k.all p=true:=by
 rw[List.all_eq_true];intro f hf;obtain⟨i,hi,rfl⟩:=List.getElem_of_mem hf;have:=h i hi;rwa [qm hi] at this
set_option maxRecDepth 20000 in
theorem zu5 (a:Option Addr) (n cap:Nat) (k:Kno) (w:World) (hE:Frags w a n cap k):
 Calls Tryz.prog 29 #[.slice a n cap] w fun x w'=>x=.returned (.bool (zcm k))∧Below w.heap.size w w':=by
 have HE:=hid hE;have Hl:=hid hE.len;have hm:n≤9223372036854775807:=Nat.le_trans hE.room hE.most;have Hck:=hid (show zcm k=(k.all zf7 && decide (k.length≤12)) from rfl);clear hE;go_enter Tryz.func29,Tryz.ntmps29;go_wp2;go_loopw [3] (fun i wr=>∃d:Nat,d≤n∧i=.int .i64 d∧Below w.heap.size w wr∧Hid (∀j,j<d→zf7 (za k j)=true)) (fun i _=>n - (intOf i).toNat)
 case atStart=>exact⟨0,by omega,rfl,Below.refl _ _,fun j h=>by omega⟩
 case round=>
  obtain⟨d,hd,rfl,hb,ht⟩:=hrel;have Hb:=hid hb;clear hb;by_cases hdn:d<n
  · have hdk:d<k.length:=by rw[Hl.out];exact hdn
    have HEr:=hid (HE.out.below Hb.out);obtain⟨bb,oo,rfl⟩:=HEr.out.some (by omega);obtain⟨x,m,c,y,m',c',hq⟩:=HEr.out.fix hdn;have Hat:=hid (show zf7 (za k d)=(decide ((za k d).1.length≤20) && zkw (za k d).2) from rfl);have Hyes:=hid (yij (p:=zf7) hdk);have Hno:=hid (fun h=>zm6 (p:=fun j=>zf7 (za k j)=true) ht.out h);have hV:=hid (yif y m' c' (za k d).2 wr (hq _ (Below.refl _ _)).2.2.2);have h0:(0:Int)≤d:=by omega
    have h04:(d:Int)<(n:Int):=by omega
    obtain⟨q1,hI,q2,-⟩:=hq _ (Below.refl _ _);rw[hI.len] at Hat;clear hq hI;generalize za k d=f at*;generalize zf7 f=bf at*;generalize zkw f.2=b2 at*;by_cases h20:m≤20
    · have hd1:decide (20<(m:Int))=false:=by rw[decide_eq_false_iff_not];omega
      have hd2:decide (m≤20)=true:=by rw[decide_eq_true_iff];exact h20
      rw[hd2] at Hat;clear h20 hd2;go_wp2_with fail;refine hV.out.mono ?_;rintro e w1 ⟨rfl,hb1⟩;have Hb1:=hid (Hb.out.trans (hb1.mono Hb.out.size));clear hb1
      cases b2 with
      | true=>
       have Hs:=hid (Hno.out (by rw[Hat.out];rfl));clear Hyes Hno;go_wp2;go_roundw
       case rel=>exact⟨d+1,by omega,by go_num,Hb1.out,Hs.out⟩
       case measure=>simp[intOf];omega
      | false=>
       have Hs:=hid (Hyes.out (by rw[Hat.out];rfl));clear Hyes Hno;go_wp2;go_ret;exact⟨by rw[Hck.out,Hs.out];rfl,Hb1.out⟩
    · have hd1:decide (20<(m:Int))=true:=by rw[decide_eq_true_iff];omega
      have hd2:decide (m≤20)=false:=by rw[decide_eq_false_iff_not];exact h20
      rw[hd2] at Hat;have Hs:=hid (Hyes.out (by rw[Hat.out];rfl));clear h20 hd2 hV Hyes Hno;go_wp2;go_ret;exact⟨by rw[Hck.out,Hs.out];rfl,Hb.out⟩
  · obtain rfl:d=n:=by omega
    have Hr:=hid (yik (k:=k) (p:=zf7) (fun j hj=>ht.out j (by rw[←Hl.out];exact hj)));have Hd1:=hid (show decide ((d:Int)≤12)=decide (k.length≤12) from by rw[Hl.out];exact decide_eq_decide.2 (by omega));go_wp2;go_ret;exact⟨by rw[Hck.out,Hr.out,Bool.true_and,←Hd1.out];rfl,Hb.out⟩
theorem z4f (L:List Seg) (s:Iv) (i:Nat):yi (zbz L s i)=(yi L).take (zeo L s.1)++[s]++(yi L).drop (zeo L s.1):=by simp[yi,zbz,List.map_take,List.map_drop]
theorem z4g (L:List Seg) (s:Iv) (i:Nat):qn (zbz L s i)=(qn L).take (zeo L s.1)++[i]++(qn L).drop (zeo L s.1):=by simp[qn,zbz,List.map_take,List.map_drop]
theorem z4h {L:List Seg} {x j:Nat} (h1:∀i,i<j→(zb (yi L) i).1<x) (hj:j≤L.length) (h2:j<L.length→¬(zb (yi L) j).1<x):j=zeo L x:=by
 induction L generalizing j with
 | nil=>simp at hj;subst hj;rfl
 | cons p L ih=>
  unfold zeo
  cases j with
  | zero=>
   have:=h2 (by simp);have e:(zb (yi (p :: L)) 0).1=p.1.1:=rfl;rw[e] at this;rw[List.takeWhile_cons_of_neg (by simpa using this)]
   rfl
  | succ j=>
   have:=h1 0 (by omega);have e:(zb (yi (p :: L)) 0).1=p.1.1:=rfl;rw[e] at this;rw[List.takeWhile_cons_of_pos (by simpa using this),List.length_cons];have e2:∀i,zb (yi (p :: L)) (i+1)=zb (yi L) i:=fun i=>rfl
   have:=ih (j:=j) (fun i hi=>by have:=h1 (i+1) (by omega);rwa [e2] at this) (by simpa using hj) (fun hl=>by have:=h2 (by simpa using hl);rwa [e2] at this);unfold zeo at this;omega
theorem zg7 {w:World} {ops:Array Oper} {o:Oper} {a:Act} {K:Act→World→Prop} {Q:Exit→Act→World→Prop} {E:Prop} (hgd:o.guard=none) (s x:Operand)
 (ho:o.op=.call { callee:=.builtin .append,args:= #[s,x],argTypes:= #[79,79] }) (hty:o.type=79)
 (base:Nat) (v:Value) (n:Nat) (xs:List Nat) (hs:a.eval s=v) (hown:w.ownsRow base 3 1 v n (qi xs)) (A:Option Addr) (m c:Nat) (l:List Nat) (hx:a.eval x=.slice A m c) (hr:Rd w 1 A m (qi l)) (hb:n+m≤1000000) (hbase:base≤w.heap.size)
 (h:∀v' w',w'.ownsRow base 3 1 v' (n+m) (qi (xs++l))→w.grownBy w' v.ownBlock→K (a.put o.dst v') w'):
 if Region.wanted o (yielded ops a.tmps)=true then Oper.wp Tryz.prog o a w K Q else E:=by
 obtain⟨v',w',hrun,h1,h2⟩:=zwu base v n xs hown A m c l hr hb hbase;exact zft hgd s x _ ho _ _ hs hx v' w' (by rw[hty];exact hrun) (h v' w' h1 h2)
theorem yil (w:World) (base:Nat):Own2 w base [] (.slice none 0 0) (.slice none 0 0):=⟨World.ownsRow_nil _ _ _ _,World.ownsRow_nil _ _ _ _,fun _=>⟨rfl,rfl⟩⟩
theorem z4i (l:List Nat) (k:Nat):(qi l).take k=qi (l.take k):=by simp[qi,List.map_take]
theorem z4j (l:List Nat) (k:Nat):(qi l).drop k=qi (l.drop k):=by simp[qi,List.map_drop]
theorem zu6:∀(l:List Iv) (k:Nat),(ivC l).take (k*2)=ivC (l.take k)
 | [],k=>by simp[ivC]
 | s :: l,0=>by simp[ivC]
 | s :: l,k+1=>by
   have e1:ivC (s :: l)=[.int .u64 ((s.1:Nat):Int),.int .u64 ((s.2:Nat):Int)]++ivC l:=rfl;rw[e1,show (k+1)*2=k*2+1+1 by omega,List.cons_append,List.cons_append,List.nil_append,List.take_succ_cons,List.take_succ_cons,zu6 l k]
   rfl
theorem zu7:∀(l:List Iv) (k:Nat),(ivC l).drop (k*2)=ivC (l.drop k)
 | [],k=>by simp[ivC]
 | s :: l,0=>by simp
 | s :: l,k+1=>by
   have e1:ivC (s :: l)=[.int .u64 ((s.1:Nat):Int),.int .u64 ((s.2:Nat):Int)]++ivC l:=rfl;rw[e1,show (k+1)*2=k*2+1+1 by omega,List.cons_append,List.cons_append,List.nil_append,List.drop_succ_cons,List.drop_succ_cons,zu7 l k]
   rfl
theorem yim {L:List Seg} (h:L.Pairwise fun p q=>p.1.1≤q.1.1) {l:List Iv} {i:Nat} {s:Iv} (hs:s∈yi (zbt L l i)):s∈yi L∨s∈l:=by
 obtain⟨p,hp,rfl⟩:=List.mem_map.1 hs;rcases List.mem_append.1 ((zn5 h i l).2.mem_iff.1 hp) with h | h
 · exact .inl (List.mem_map.2 ⟨p,h,rfl⟩)
 · obtain⟨t,ht,rfl⟩:=List.mem_map.1 h;exact .inr ht
end
section
structure SmallK (k:Kno):Prop where
 len:k.length≤15
 items:∀f∈k,f.1.length≤20
 vec:∀f∈k,f.2.length≤20
 holes:∀f∈k,∀e∈f.2,e.2.2.length≤30
theorem yin {f:Frg}:zf7 f=true↔f.1.length≤20∧f.2.length≤20∧∀e∈f.2,e.2.2.length≤30:=by
 simp only[zf7,zkw,Bool.and_eq_true,decide_eq_true_eq,List.all_eq_true];constructor
 · rintro⟨h1,h2,h3⟩;exact⟨h1,h3,h2⟩
 · rintro⟨h1,h2,h3⟩;exact⟨h1,h3,h2⟩
theorem z4k {m:Nat}:∀{k:Kno},(∀f∈k,f.1.length≤m)→yg k≤m*k.length
 | [],_=>by simp[yg]
 | f :: k,h=>by
   rw[yg,List.length_cons,Nat.mul_succ];have h1:=h f List.mem_cons_self;have h2:=z4k (k:=k) fun g hg=>h g (List.mem_cons_of_mem _ hg)
   omega
theorem zu8 {k:Kno} (h:zcm k=true):SmallK k∧k.length≤12∧yg k≤240:=by
 simp only[zcm,Bool.and_eq_true,decide_eq_true_eq,List.all_eq_true] at h;have hf:=fun f hf=>yin.1 (h.1 f hf)
 refine⟨⟨by omega,fun f h=>(hf f h).1,fun f h=>(hf f h).2.1,fun f h=>(hf f h).2.2⟩,h.2,?_⟩;have:=z4k (m:=20) (k:=k) fun f h=>(hf f h).1
 omega
theorem yio (g:Bool→Bool→Bool) (a b:Vec):(doV g a b).length≤a.length+b.length:=by
 unfold doV;refine Nat.le_trans (List.length_filterMap_le _ _) ?_;unfold zcl;have:=ze1 (zh7 (a.map (·.1)++b.map (·.1))) (M:=a.map (·.1)++b.map (·.1)) (fun y hy=>(zf4 _ _).1 hy);simpa using this
theorem yip {a b:Vec} (ha:LtV a) (hb:LtV b) (pa:a.Pairwise zay) (pb:b.Pairwise zay) (r:Nat):yw (doV gOr a b) r=opL gOr (yw a r) (yw b r):=by
 obtain⟨c1,c2,c3⟩:=zuj (g:=gOr) rfl ha hb pa pb;have ho:=zb5 (g:=gOr) (zew ha r) (zew hb r) rfl;refine zmh (zul c2 r) ho.1 fun x=>?_
 rw[zmm c2 c1.asc,c3,ho.2.1,zmm ha pa,zmm hb pb]
theorem yiq {v:Vec} (hl:LtV v) {m:Nat} (h:∀e∈v,e.2.2.length≤m) (r:Nat):(yw v r).length≤1+m:=by
 unfold yw;split
 · rename_i e he;have hm:=List.mem_of_find?_eq_some he;have:=zuc (hl e hm).holes (hl e hm).max;have:=h e hm;omega
 · simp
theorem yir {v:Vec} (ha:v.Pairwise zay) {e:Ent} (he:e∈v):yw v e.1=vw e:=by
 unfold yw
 cases hf:v.find? (fun f=>decide (f.1=e.1)) with
 | none=>exact absurd (decide_eq_true rfl) (List.find?_eq_none.1 hf e he)
 | some f=>
  have h1:=List.mem_of_find?_eq_some hf;have h2:f.1=e.1:=by have:=List.find?_some hf;exact of_decide_eq_true this
  rw[zp3 ha h1 he (by omega)]
theorem z4l {k:Kno} (hk:LtK k) (hs:SmallK k) (x:Nat):∀d,d≤k.length→(zbj k x d).length≤20*d∧∀r,(yw (zbj k x d) r).length≤31*d
 | 0,_=>⟨by simp[zum],fun r=>by simp[zum,yw]⟩
 | d+1,h=>by
   obtain⟨h1,h2⟩:=z4l hk hs x d (by omega);rw[zp8 (by omega)];have hm:=yh (k:=k) (i:=d) (by omega);split
   · have hc:=zun hk x d;have hl:=zp9 hk x d;refine⟨?_,fun r=>?_⟩
     · have:=yio gOr (zbj k x d) (za k d).2;have:=hs.vec _ hm;omega
     · rw[yip hl (hk _ hm).vec hc.asc (hk _ hm).asc];have a1:=zp2 (zew hl r) (zew (hk _ hm).vec r);have a2:=yiq (hk _ hm).vec (hs.holes _ hm) r;have:=h2 r;omega
   · exact⟨by omega,fun r=>by have:=h2 r;omega⟩
theorem yis {v:Vec} (hc:CanV v) (hl:LtV v) (h1:v.length≤340) (h2:∀r,(yw v r).length≤499):VecFits v:=by
 refine⟨h1,fun e he=>?_⟩;have h3:=yh9 (hl e he) (hc.ent e he);unfold zdo at h3;have h4:=yh2 (zh8 (hl e he)).2.2 h3;have h5:=h2 e.1;rw[yir hc.asc he] at h5;omega
theorem zqp {k:Kno} (hk:LtK k) (hs:SmallK k):KnoFits k:=by
 refine⟨by have:=hs.len;omega,fun f hf=>by have:=hs.items f hf;omega,fun f hf=>⟨by have:=hs.vec f hf;omega,fun e he=>by have:=hs.holes f hf e he;omega⟩,fun x d=>?_⟩;rw[z3b];obtain⟨h1,h2⟩:=z4l hk hs x (min d k.length) (Nat.min_le_right ..);have:=hs.len;have hm:min d k.length≤15:=Nat.le_trans (Nat.min_le_right ..) hs.len;exact yis (zun hk x _) (zp9 hk x _) (by omega) (fun r=>by have:=h2 r;omega)
theorem zu9 {k:Kno} (h:∀f∈k,zo f.1∧LtV f.2) (hc:ckF k=none):LtK k:=fun f hf=>⟨(h f hf).1,(h f hf).2,(zqb.1 ((zjg.1 hc) f hf).2).1⟩
theorem yit (k:Kno):yg (jb k)=(zai k).length:=by
 have:∀l:List Iv,yg (l.map fun s=>([s],atK k s.1))=l.length:=fun l=>by
  induction l with
  | nil=>rfl
  | cons s l ih=>rw[List.map_cons,yg,ih,List.length_cons];simp;omega
 exact this _
theorem z4m {k:Kno} (hk:LtK k) (hf:KnoFits k) {m:Nat} (hi:yg k≤m):(zv k).length≤1+m*2∧yg (zv k)≤1+m*2∧∀f∈zv k,VecFits f.2:=by
 have hp:(zai k).length≤1+m*2:=by
  have:=zkv k;have:=zup k;omega
 have h1:=zm0 (k:=jb k) (zmx hk) (jb k).length;rw[zqk] at h1;rw[yit] at h1;have h2:(jb k).length=(zai k).length:=by unfold jb;rw[List.length_map]
 refine⟨by unfold zv;omega,by unfold zv;omega,fun f hf'=>?_⟩
 have h3:=zuz (k:=jb k) (fun f hf=>by
  unfold jb at hf;obtain⟨s,hs,rfl⟩:=List.mem_map.1 hf;obtain⟨c1,c2,_⟩:=zex hk s.1;simp only;rw[zmp c2 c1,←zkr];exact KnoFits.at_ (by assumption) _ _) (jb k).length
 rw[zqk] at h3;exact h3 f hf'
