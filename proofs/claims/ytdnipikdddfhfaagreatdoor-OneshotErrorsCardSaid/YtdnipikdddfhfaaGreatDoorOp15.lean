/- Part 15. -/
import Derived.Test.YtdnipikdddfhfaaGreatDoorOp14
set_option linter.unusedVariables false
set_option maxHeartbeats 16000000
namespace Go.Proofs.YtdnipikdddfhfaaGreatDoor
open Lib (hid)
section
def vsK (c:Kno):List Vec:=c.map (·.2)
theorem zby (c:Kno):(vsK c).length=c.length:=by simp[vsK]
theorem zfu {c:Kno} {d:Nat} (hd:d<c.length):(vsK c)[d]'(by rw[zby];exact hd)=(zd c d).2:=by simp[vsK,yo hd]
theorem ztz {c:Kno} (hc:CanK c) {d:Nat} (hd:d<c.length):ja ((vsK c).take d) (zd c d).2=false:=by
 unfold ja
 cases d with
 | zero=>simp
 | succ n=>
  rw[zed (by rw[zby];omega),zfu (show n<c.length by omega)];have h1:=List.pairwise_iff_getElem.1 hc.asc n (n+1) (by omega) hd (by omega);unfold zdv at h1;rw[←yo (by omega),←yo hd] at h1;simp only[h1]
  rfl
theorem zhs {T:zl} {E:Nat} {le lh:Int} (hT:Fwd T) {c:Kno} (hc:CanK c) (hl:LtK c):∀d,d≤c.length→∀{p r:Nat},yu T p (vr c d) r→r≤E→
 ∃r0,T p=.ok (c.length,r0)∧r0+d≤r∧∀k,(∀i,i<d→okV le lh (zd c i).2)→y8 T E le lh (d+k) [] r0=y8 T E le lh k ((vsK c).take d) r
 | 0,_,p,r,hr,hE=>by
   obtain⟨r0,h1,rfl⟩:=hr
   exact⟨r0,h1,by omega,fun k _=>by rw[List.take_zero,Nat.zero_add]⟩
 | d+1,hd,p,r,hr,hE=>by
   rw[vr] at hr;obtain⟨s,h1,h2⟩:=jt.1 hr;have h3:=za3 hT h2;have hm:=j7 (show d<c.length from hd);obtain⟨hv,hne⟩:=hc.vec _ hm
   have h4:1≤(zar (zd c d).2).length:=by
    obtain⟨R,e⟩:=zhr (zd c d).2 0 (zd c d).2.length (Nat.zero_le _);unfold zar;rw[e];simp[ky]
   obtain⟨r0,h5,h6,h7⟩:=zhs hT hc hl d (by omega) h1 (show s≤E by omega);refine⟨r0,h5,by omega,fun k hk=>?_⟩;rw[show d+1+k=d+(k+1) by omega,h7 (k+1) (fun i hi=>hk i (by omega)),y8,(zlq hT hv (hl _ hm).vec hne h2 hE).1 (hk d (by omega)),zt,ztz hc hd,if_neg (by simp),List.take_succ_eq_append_getElem (by rw[zby];exact hd),zfu hd]
theorem zl1 (c:Kno) (i:Nat):∀d,i≤d→∃R,vr c d=vr c i++R
 | 0,h=>⟨[],by rw[show i=0 by omega,List.append_nil]⟩
 | d+1,h=>by
   rcases Nat.lt_or_ge d i with h1 | h1
   · exact⟨[],by rw[show i=d+1 by omega,List.append_nil]⟩
   · obtain⟨R,e⟩:=zl1 c i d h1;exact⟨R++zar (zd c d).2,by rw[vr,e,List.append_assoc]⟩
theorem jx (L:List Seg):(yg L).length=L.length:=by simp[yg]
theorem zdb (L:List Seg):(yq L).length=L.length:=by simp[yq]
theorem zt0 {c:Kno} (hc:CanK c) {d:Nat} (hd:d<(zf c).length):¬(vx ((yg (zf c)).take d) (zc (yg (zf c)) d).1=true∧((yq (zf c)).take d).getLast?=some (nth (yq (zf c)) d)):=by
 rintro⟨h1,h2⟩
 cases d with
 | zero=>simp at h2
 | succ n=>
  have hp:=List.pairwise_iff_getElem.1 (zkl hc) n (n+1) (by omega) hd (by omega);unfold vx zo at h1;rw[zed (by rw[jx];omega)] at h1;rw[zed (by rw[zdb];omega)] at h2;have e1:(yg (zf c))[n]'(by rw[jx];omega)=(zf c)[n].1:=by simp[yg]
  have e2:zc (yg (zf c)) (n+1)=(zf c)[n+1].1:=by rw[qg (by rw[jx];exact hd)];simp[yg]
  have e3:(yq (zf c))[n]'(by rw[zdb];omega)=(zf c)[n].2:=by simp[yq]
  have e4:nth (yq (zf c)) (n+1)=(zf c)[n+1].2:=by simp[nth,yq,hd]
  rw[e1,e2] at h1;rw[e3,e4] at h2;simp only[Option.map_some,decide_eq_true_eq] at h1;have:=hp.2 (Option.some.inj h2);omega
theorem zl2 {T:zl} {c:Kno} (hc:CanK c) (hl:LtK c):∀d,d≤(zf c).length→∀{p r:Nat},yu T p (ki (yg (zf c)) (yq (zf c)) d) r→
 ∃r0,T p=.ok ((zf c).length,r0)∧∀k,yz T c.length (d+k) [] [] r0=yz T c.length k ((yg (zf c)).take d) ((yq (zf c)).take d) r
 | 0,_,p,r,hr=>by
   obtain⟨r0,h1,rfl⟩:=hr;rw[jx] at h1
   exact⟨r0,h1,fun k=>by rw[List.take_zero,List.take_zero,Nat.zero_add]⟩
 | d+1,hd,p,r,hr=>by
   rw[ki] at hr;obtain⟨s,h1,h2⟩:=jt.1 hr;obtain⟨t,h3,h4⟩:=jt (a:=[jo (yg (zf c)) 0 d,(zc (yg (zf c)) d).2 - (zc (yg (zf c)) d).1]) (b:=[nth (yq (zf c)) d]).1 h2;obtain⟨r',h5,rfl⟩:=h4;obtain⟨r0,h6,h7⟩:=zl2 hc hl d (by omega) h1
   have hlt:yj (yg (zf c)):=fun s hs=>by
    obtain⟨p,hp,rfl⟩:=List.mem_map.1 hs;obtain⟨-,-,h3⟩:=za2 c c.length (Nat.le_refl _);exact(hl _ (j7 (h3 p hp).1)).items _ (h3 p hp).2
   obtain⟨w,h8⟩:=zll (l:=yg (zf c)) (a:=0) (zsd hc) hlt (by rw[jx];exact hd) h3;refine⟨r0,h6,fun k=>?_⟩;rw[show d+1+k=d+(k+1) by omega,h7 (k+1),yz,h8,zt];unfold k7;have hx:nth (yq (zf c)) d<c.length:=zkv (k:=c) hd;rw[zck h5,zt,if_neg (by omega),if_neg (zt0 hc hd),List.take_succ_eq_append_getElem (by rw[jx];exact hd),List.take_succ_eq_append_getElem (by rw[zdb];exact hd)]
   have e:nth (yq (zf c)) d=(yq (zf c))[d]'(by rw[zdb];exact hd):=by
    unfold nth;rw[List.getD_eq_getElem?_getD,List.getElem?_eq_getElem (by rw[zdb];exact hd)]
    rfl
   rw[qg (by rw[jx];exact hd),e]
structure okK (L:zb) (c:Kno):Prop where
 vecs:okC c.length L.2.1
 vec:∀i,i<c.length→okV L.2.2.1 L.2.2.2.1 (zd c i).2
 segs:okC (zf c).length L.2.2.2.2
theorem zt1 {c:Kno} (hc:CanK c):zw (vsK c) (yg (zf c)) (yq (zf c))=c:=by
 have h:=zrw hc;unfold zw yq;rw[List.map_map];exact h
theorem zt2 {c:Kno} (hc:CanK c) (E z:Nat):jp E c z=if z<E then .error (11,z) else .ok (c,z):=by
 unfold jp;rw[if_neg (by rintro⟨f,hf,h⟩;exact(hc.items f hf).2 h)]
theorem zt3 {T:zl} (hT:Fwd T) {E p z:Nat} {L:zb} {c:Kno} (hc:CanK c) (hl:LtK c) (hr:yu T p (jl c) z) (hz:z≤E):
 (okK L c→zx T E L p=if z<E then .error (11,z) else .ok (c,z))∧(¬okK L c→∃w,zx T E L p=.error (7,w)):=by
 have hr':=hr;unfold jl at hr';obtain⟨s,h1,h2⟩:=jt.1 hr';have h2':yu T s (ki (yg (zf c)) (yq (zf c)) (zf c).length) z:=h2;have h3:=za3 hT h2;rw[zhg] at h3;obtain⟨r0,a1,a2,a3⟩:=zhs (E:=E) (le:=L.2.2.1) (lh:=L.2.2.2.1) hT hc hl c.length (Nat.le_refl _) h1 (by omega);obtain⟨q0,b1,b2⟩:=zl2 hc hl (zf c).length (Nat.le_refl _) h2';have hb:=b2 0;rw[Nat.add_zero,yz,List.take_of_length_le (by rw[jx];exact Nat.le_refl _),List.take_of_length_le (by rw[zdb];exact Nat.le_refl _)] at hb
 have hq:q0+(zf c).length≤E:=by
  cases hS:(zf c).length with
  | zero=>rw[hS] at h2';obtain⟨r,e1,rfl⟩:=h2';rw[b1] at e1;injection e1 with e;injection e with _ e;omega
  | succ n=>
   obtain⟨R,e⟩:∃R,ki (yg (zf c)) (yq (zf c)) (zf c).length=[(yg (zf c)).length]++R:=by
    have:∀d,∃R,ki (yg (zf c)) (yq (zf c)) d=[(yg (zf c)).length]++R:=by
     intro d
     induction d with
     | zero=>exact⟨[],rfl⟩
     | succ d ih=>obtain⟨R,e⟩:=ih;exact⟨_,by rw[ki,e,List.append_assoc]⟩
    exact this _
   have hln:=zhg (yg (zf c)) (yq (zf c)) (zf c).length;rw[e] at h2' hln;obtain⟨t,⟨t',e1,rfl⟩,e2⟩:=jt.1 h2';have e3:=za3 hT e2;rw[b1] at e1;injection e1 with e1;injection e1 with _ e1;simp only[List.length_append,List.length_cons,List.length_nil] at hln;omega
 by_cases k1:okC c.length L.2.1
 · by_cases k2:∀i,i<c.length→okV L.2.2.1 L.2.2.2.1 (zd c i).2
   · have hv:=a3 0 k2;rw[Nat.add_zero,y8,List.take_of_length_le (by rw[zby];exact Nat.le_refl _)] at hv;by_cases k3:okC (zf c).length L.2.2.2.2
     · refine⟨fun _=>?_,fun h=>absurd ⟨k1,k2,k3⟩ h⟩;unfold zx vy;rw[zcl a1 k1 (by omega),zt,hv,zt,zcl b1 k3 hq,zt,zby,hb,zt];simp only;rw[zt1 hc,zt2 hc]
     · refine⟨fun h=>absurd h.segs k3,fun _=>⟨s,?_⟩⟩;unfold zx vy;rw[zcl a1 k1 (by omega),zt,hv,zt,zfs b1 k3,zag]
   · refine⟨fun h=>absurd h.vec k2,fun _=>?_⟩;have:DecidablePred fun i=>okV L.2.2.1 L.2.2.2.1 (zd c i).2:=fun i=>Classical.propDecidable _
     obtain⟨i,hi,hbad,hlt⟩:=zlp (P:=fun i=>okV L.2.2.1 L.2.2.2.1 (zd c i).2) k2;obtain⟨R,e⟩:=zl1 c (i+1) c.length hi;have h1':=h1;rw[e] at h1';obtain⟨t,g1,g2⟩:=jt.1 h1';have g3:=za3 hT g2;rw[vr] at g1;obtain⟨u,g4,g5⟩:=jt.1 g1;have g6:=za3 hT g5;obtain⟨r0',a1',-,a3'⟩:=zhs (E:=E) (le:=L.2.2.1) (lh:=L.2.2.2.1) hT hc hl i (by omega) g4 (by omega);obtain rfl:r0'=r0:=by rw[a1] at a1';injection a1' with h;injection h with _ h;exact h.symm
     have hm:=j7 hi;obtain⟨w,hw⟩:=(zlq (E:=E) hT (hc.vec _ hm).1 (hl _ hm).vec (hc.vec _ hm).2 g5 (by omega)).2 hbad;have:=a3' (c.length - i) hlt;rw[show i+(c.length - i)=c.length by omega,show c.length - i=(c.length - i - 1)+1 by omega,y8,hw,zag] at this
     exact⟨w,by
      unfold zx;rw[zcl a1 k1 (by omega),zt,this,zag]⟩
 · refine⟨fun h=>absurd h.vecs k1,fun _=>⟨p,?_⟩⟩;unfold zx;rw[zfs a1 k1,zag]
def T64 (T:zl):Prop:=∀p x q,T p=.ok (x,q)→x<18446744073709551616
theorem qs {α β:Type} {a:RR α} {f:α→Nat→RR β} {y:β×Nat} (h:thn a f=.ok y):∃x q,a=.ok (x,q)∧f x q=.ok y:=by
 cases a with
 | error e=>cases h
 | ok z=>exact⟨z.1,z.2,rfl,h⟩
theorem zbz {T:zl} {p x q:Nat} (h:nmP T p=.ok (x,q)):T p=.ok (x,q):=by
 unfold nmP at h
 cases hT:T p with
 | error c=>rw[hT] at h;cases h
 | ok y=>rw[hT] at h;cases h;rfl
theorem zee {T:zl} {E p x q:Nat} {lim:Int} (h:zv T E lim p=.ok (x,q)):T p=.ok (x,q)∧okC x lim:=by
 unfold zv at h;obtain⟨y,r,h1,h2⟩:=qs h;split at h2
 · rename_i h3;cases h2;refine⟨zbz h1,?_⟩;unfold zm at h3;unfold okC;split at h3
   · cases h3
   · rename_i h4;rcases Nat.eq_zero_or_pos x with h5 | h5
     · exact .inr h5
     · exact .inl (by
        by_cases h6:lim<(x:Int)
        · exact absurd ⟨h6,by omega⟩ h4
        · omega)
 · cases h2
theorem kt {l:List Iv} {t:List Iv} {i:Nat} (h:i<l.length):zc (l++t) i=zc l i:=by
 rw[qg h,qg (by rw[List.length_append];omega),List.getElem_append_left h]
theorem zef (l:List Iv) (s:Iv):zc (l++[s]) l.length=s:=by
 rw[qg (by simp)];simp
theorem zl3 (l t:List Iv) (a:Nat):∀d,d≤l.length→jr (l++t) a d=jr l a d
 | 0,_=>rfl
 | d+1,h=>by
   rw[jr,jr,zl3 l t a d (by omega),kt h]
   have:jo (l++t) a d=jo l a d:=by
    unfold jo;rw[kt (by omega),kt (i:=d) h,kt (by omega)]
   rw[this]
theorem zl4 (l:List Iv):zo l=if l.length=0 then none else some (zc l (l.length - 1)).2:=by
 unfold zo;rw[List.getLast?_eq_getElem?]
 cases h:l.length with
 | zero=>rw[List.length_eq_zero_iff.1 h];rfl
 | succ n=>rw[if_neg (by omega),show n+1 - 1=n by omega,List.getElem?_eq_getElem (by omega),qg (by omega)];rfl
theorem zl5 {T:zl} {l:List Iv} {a p q w:Nat} {s:Iv} (hT:T64 T) (hD:zae l a) (hl:yj l) (h:ivP T (zo l) a p=.ok ((s,w),q)):
 zae (l++[s]) a∧yj (l++[s])∧yu T p [jo (l++[s]) a l.length,s.2 - s.1] q:=by
 unfold ivP at h;obtain⟨x,r,h1,h2⟩:=qs h;have t1:=zbz h1;have x64:=hT _ _ _ t1
 cases hlo:loP (zo l) a x with
 | none=>rw[hlo] at h2;cases h2
 | some lo=>
  rw[hlo] at h2;simp only[hiP] at h2;obtain⟨y,r',h3,h4⟩:=qs h2;have t2:=zbz h3;split at h4
  · rename_i hb;cases h4
    have hg:jo (l++[(lo,lo+y)]) a l.length=x∧(0<l.length→(zc l (l.length - 1)).2+1+a≤lo)∧lo<18446744073709551616:=by
     rw[zl4] at hlo;unfold jo;rcases Nat.eq_zero_or_pos l.length with h0 | h0
     · rw[if_pos h0] at hlo;cases hlo;rw[if_pos h0];have:l=[]:=List.length_eq_zero_iff.1 h0;subst this;exact⟨rfl,fun h=>by simp at h,x64⟩
     · rw[if_neg (by omega)] at hlo;simp only[loP] at hlo;split at hlo
       · cases hlo;rw[if_neg (by omega),zef,kt (by omega)];exact⟨by simp only;omega,fun _=>by omega,by assumption⟩
       · cases hlo
    refine⟨fun i hi=>?_,fun t ht=>?_,⟨_,by rw[hg.1];exact t1,_,by rw[show (lo,lo+y).2 - (lo,lo+y).1=y by simp only;omega];exact t2,rfl⟩⟩
    · rw[List.length_append,List.length_cons,List.length_nil] at hi;rcases Nat.lt_or_ge i l.length with h5 | h5
      · rw[kt h5];refine⟨(hD i h5).1,fun h0=>?_⟩;rw[kt (by omega)];exact(hD i h5).2 h0
      · obtain rfl:i=l.length:=by omega
        rw[zef];refine⟨by simp only;omega,fun h0=>?_⟩;rw[kt (by omega)];exact hg.2.1 h0
    · rcases List.mem_append.1 ht with ht | ht
      · exact hl t ht
      · simp at ht;subst ht;exact⟨hg.2.2,hb⟩
  · cases h4
theorem zl6 {T:zl} {mx:Nat} (hT:T64 T):∀(n:Nat) (acc:List Iv) {p q:Nat} {h:List Iv},y7 T mx n acc p=.ok (h,q)→zae acc 1→yj acc→(∀s∈acc,s.2<mx)→
 ∀{P0:Nat},yu T P0 (jr acc 1 acc.length) p→yu T P0 (jr h 1 h.length) q∧zae h 1∧yj h∧(∀s∈h,s.2<mx)∧h.length=acc.length+n
 | 0,acc,p,q,h,hh,hD,hl,hm,P0,hr=>by cases hh;exact⟨hr,hD,hl,hm,rfl⟩
 | n+1,acc,p,q,h,hh,hD,hl,hm,P0,hr=>by
   rw[y7] at hh;obtain⟨⟨s,w⟩,r,h1,h2⟩:=qs hh;obtain⟨d1,d2,d3⟩:=zl5 hT hD hl h1;unfold ko at h2;split at h2
   · cases h2
   · rename_i h3;simp only at h3 h2
     obtain⟨e1,e2,e3,e4,e5⟩:=zl6 hT n (acc++[s]) h2 d1 d2 (fun t ht=>by
      rcases List.mem_append.1 ht with ht | ht
      · exact hm t ht
      · simp at ht;subst ht;omega) (P0:=P0) (by
      rw[List.length_append,List.length_cons,List.length_nil,Nat.zero_add,jr,zl3 acc [s] 1 acc.length (Nat.le_refl _),zef];exact jt.2 ⟨p,hr,d3⟩)
     refine⟨e1,e2,e3,e4,?_⟩;rw[e5,List.length_append,List.length_cons,List.length_nil];omega
theorem zt4 {l:List Iv} (h:zae l 1):Good l:=zgp fun i hi=>⟨(h i hi).1,fun h0=>by have:=(h i hi).2 h0;omega⟩
def za5 (v:Vec):Nat→List Nat
 | 0=>[]
 | d+1=>za5 v d++zaf v d
theorem zl7 (v:Vec):∀d,ky v d=v.length :: za5 v d
 | 0=>rfl
 | d+1=>by rw[ky,za5,zl7 v d];rfl
theorem zeg {v t:Vec} {i:Nat} (h:i<v.length):zg (v++t) i=zg v i:=by
 rw[ve h,ve (by rw[List.length_append];omega),List.getElem_append_left h]
theorem zht (v:Vec) (e:Ent):zg (v++[e]) v.length=e:=by
 rw[ve (by simp)];simp
theorem zl8 (v t:Vec):∀d,d≤v.length→za5 (v++t) d=za5 v d
 | 0,_=>rfl
 | d+1,h=>by
   rw[za5,za5,zl8 v t d (by omega)]
   have:zaf (v++t) d=zaf v d:=by
    unfold zaf zbu;rw[zeg (i:=d) h,zeg (i:=0) (by omega),zeg (i:=d - 1) (by omega)]
   rw[this]
theorem zt5 (v:Vec):v.getLast?=if v.length=0 then none else some (zg v (v.length - 1)):=by
 rw[List.getLast?_eq_getElem?]
 cases h:v.length with
 | zero=>rw[List.length_eq_zero_iff.1 h];rfl
 | succ n=>rw[if_neg (by omega),show n+1 - 1=n by omega,List.getElem?_eq_getElem (by omega),ve (by omega)]
theorem zt6 {T:zl} {E:Nat} {lim:Int} (hT:T64 T) {v:Vec} {e:Ent} {p q:Nat} (h:qo T E lim v p=.ok (e,q)):
 yu T p (zaf (v++[e]) v.length) q∧CanE e∧LtE e∧okC e.2.2.length lim∧(0<v.length→(zg v (v.length - 1)).1<e.1):=by
 unfold qo at h;obtain⟨x,r,h1,h2⟩:=qs h;have t1:=zbz h1
 cases hr:jv v x with
 | none=>rw[hr] at h2;cases h2
 | some rp=>
  rw[hr] at h2;simp only[zaj] at h2;obtain⟨mx,r2,h3,h4⟩:=qs h2;have t2:=zbz h3;unfold zat at h4;obtain⟨n,r3,h5,h6⟩:=qs h4;obtain⟨t3,hc⟩:=zee h5;obtain⟨hl,r4,h7,h8⟩:=qs h6;cases h8;obtain⟨e1,e2,e3,e4,e5⟩:=zl6 hT n [] h7 (fun i hi=>(by simp at hi)) (fun t ht=>(by cases ht)) (fun t ht=>(by cases ht)) (P0:=r3) rfl;have hn:hl.length=n:=by simpa using e5
  have hg:=zt4 e2
  have hrep:zbu (v++[(rp,mx,hl)]) v.length=x∧rp<18446744073709551616∧(0<v.length→(zg v (v.length - 1)).1<rp):=by
   have x64:=hT _ _ _ t1;unfold jv at hr;rw[zt5] at hr;unfold zbu;rcases Nat.eq_zero_or_pos v.length with h0 | h0
   · rw[if_pos h0] at hr;cases hr;rw[if_pos h0];have:v=[]:=List.length_eq_zero_iff.1 h0;subst this;exact⟨rfl,x64,fun h=>by simp at h⟩
   · rw[if_neg (by omega)] at hr;simp only at hr;split at hr
     · cases hr;rw[if_neg (by omega),zht,zeg (by omega)];exact⟨by simp only;omega,by assumption,fun _=>by omega⟩
     · cases hr
  refine⟨?_,⟨hg,fun s hs=>Nat.le_of_lt (e4 s hs),?_⟩,⟨hrep.2.1,hT _ _ _ t2,e3⟩,by simp only[hn];exact hc,hrep.2.2⟩
  · unfold zaf;rw[hrep.1,zht];refine jt.2 ⟨r3,⟨r,t1,r2,t2,r3,by simp only[hn];exact t3,rfl⟩,e1⟩
  · cases hm:mem hl mx with
    | false=>rfl
    | true=>
     obtain⟨s,hs,a1,a2⟩:=mem_iff.1 hm;have:=e4 s hs;omega
structure EInv (lim:Int) (v:Vec):Prop where
 can:CanV v
 lt:LtV v
 lim:∀i,i<v.length→okC (zg v i).2.2.length lim
theorem zl9 {T:zl} {E:Nat} {lim:Int} (hT:T64 T):∀(n:Nat) (acc:Vec) {p q:Nat} {v:Vec},yx T E lim n acc p=.ok (v,q)→EInv lim acc→
 ∀{P0:Nat},yu T P0 (za5 acc acc.length) p→yu T P0 (za5 v v.length) q∧EInv lim v∧v.length=acc.length+n
 | 0,acc,p,q,v,h,hI,P0,hr=>by cases h;exact⟨hr,hI,rfl⟩
 | n+1,acc,p,q,v,h,hI,P0,hr=>by
   rw[yx] at h;obtain⟨e,r,h1,h2⟩:=qs h;obtain⟨a1,a2,a3,a4,a5⟩:=zt6 hT h1
   obtain⟨b1,b2,b3⟩:=zl9 hT n (acc++[e]) h2 ⟨⟨List.pairwise_append.2 ⟨hI.can.asc,List.pairwise_singleton _ _,fun x hx y hy=>by
    simp at hy;subst hy;obtain⟨i,hi,rfl⟩:=List.getElem_of_mem hx;have h3:=a5 (by omega);unfold zdu;rcases Nat.lt_or_ge i (acc.length - 1) with h4 | h4
    · have h5:=List.pairwise_iff_getElem.1 hI.can.asc i (acc.length - 1) hi (by omega) h4;unfold zdu at h5;rw[ve (by omega)] at h3;omega
    · rw[ve (by omega)] at h3;have e':i=acc.length - 1:=by omega
      subst e';exact h3⟩,fun x hx=>by
    rcases List.mem_append.1 hx with hx | hx
    · exact hI.can.ent x hx
    · simp at hx;subst hx;exact a2⟩,fun x hx=>by
    rcases List.mem_append.1 hx with hx | hx
    · exact hI.lt x hx
    · simp at hx;subst hx;exact a3,fun i hi=>by
    rw[List.length_append,List.length_cons,List.length_nil] at hi;rcases Nat.lt_or_ge i acc.length with h4 | h4
    · rw[zeg h4];exact hI.lim i h4
    · obtain rfl:i=acc.length:=by omega
      rw[zht];exact a4⟩ (P0:=P0) (by
    rw[List.length_append,List.length_cons,List.length_nil,Nat.zero_add,za5,zl8 acc [e] acc.length (Nat.le_refl _)];exact jt.2 ⟨p,hr,a1⟩)
   refine⟨b1,b2,?_⟩;rw[b3,List.length_append,List.length_cons,List.length_nil];omega
theorem zt7 {T:zl} {E:Nat} {le lh:Int} (hT:T64 T) {v:Vec} {p q:Nat} (h:qz T E le lh p=.ok (v,q)):yu T p (zar v) q∧CanV v∧LtV v∧v≠[]∧okV le lh v:=by
 unfold qz at h;obtain⟨n,r,h1,h2⟩:=qs h;obtain⟨t1,hc⟩:=zee h1;split at h2
 · cases h2
 · rename_i h0;obtain⟨b1,b2,b3⟩:=zl9 hT n [] h2 ⟨⟨List.Pairwise.nil,fun e he=>(by cases he)⟩,fun e he=>(by cases he),fun i hi=>(by simp at hi)⟩ (P0:=r) rfl;have hn:v.length=n:=by simpa using b3
   refine⟨?_,b2.can,b2.lt,fun e=>h0 (by rw[←hn,e];rfl),by rw[hn];exact hc,b2.lim⟩;unfold zar;rw[zl7,hn];exact⟨r,t1,by rw[←hn];exact b1⟩
end
section
open Go.RowKit
attribute [local go_sem] jc
structure HoleOut (base g n cap:Nat) (v:Vec) (r m:Nat) (h:List Iv) (W w':World) (gS cS:Nat) (S:Value):Prop where
 below:Below base W w'
 cell:w'.cell? ⟨g,n*3+2,none⟩=some S
 frozen:w'.frozen? ⟨g,n*3+2,none⟩=false
 row:∀g' T C,Row W g' T C→T≠89→Row w' g' T C
 fin:∀w2,w'.grownBy w2 none→EntO (w2.setCell ⟨g,n*3+2,none⟩ (.slice (some ⟨gS,0,none⟩) h.length cS)) base (.slice (some ⟨g,0,none⟩) (n+1) cap) v r m h
theorem zt8 {w W:World} {ops:Array Oper} {o:Oper} {a:Act} {K:Act→World→Prop} {Q:Exit→Act→World→Prop} {E:Prop} (hgd:o.guard=none) (s x:Operand)
 (ho:o.op=.call { callee:=.builtin .append,args:= #[s,x],argTypes:= #[91,91] }) (hty:o.type=91)
 {base g n cap:Nat} {v:Vec} {r m:Nat} {h:List Iv} (hE:EntO w base (.slice (some ⟨g,0,none⟩) (n+1) cap) v r m h) (hn:n=v.length) {S:Value} (hS:w.cell? ⟨g,n*3+2,none⟩=some S) (t:Iv) (hW:Below w.heap.size w W)
 (hs:a.eval s=S) (A:Option Addr) (c:Nat) (hx:a.eval x=.slice A 1 c) (hr:Rd W 2 A 1 (ivC [t])) (hb:h.length+1≤1000000000000)
 (hK:∀gS cS w',HoleOut base g n cap v r m (h++[t]) w w' gS cS S→K (a.put o.dst (.slice (some ⟨gS,0,none⟩) (h++[t]).length cS)) w'):
 if Region.wanted o (yielded ops a.tmps)=true then Oper.wp Tryz.prog o a W K Q else E:=by
 subst hn;obtain⟨S',w',hrun,⟨gS,cS,rfl⟩,h1,h2,h3,h4,h5,h6,h7⟩:=hE.hole hS t W hW A c hr hb;refine ze4 hgd s x _ ho _ _ hs hx _ w' (by rw[hty];exact hrun) ?_;have e:(h++[t]).length=h.length+1:=by simp
 rw[←e]
 have hbw:base≤w.heap.size:=by
  obtain⟨_,_,_,q1,q2,-⟩:=hE.at
  omega
 refine hK gS cS w' ⟨(hW.mono hbw).trans h1,h3,h4,fun g' T C hR hT=>(hR.later hW).grown h5 fun e=>?_,fun w2 hw2=>by rw[e];exact h7 w2 hw2⟩;obtain⟨-,C',fr,hk⟩:=h6 g' e.symm;replace hR:=hR.later hW;unfold Row at hR;rw[hk] at hR;injection hR with hR;injection hR with _ hR _;exact hT hR.symm
set_option maxRecDepth 100000 in
theorem zt9 (base g:Nat) (L:zb) (nx:Value) (s:PS) (x rest:Nat) (w:World) (h:PkR w base g L nx s) (ht:s.tag=5) (hx:x<18446744073709551616) (hF:PFit s 900000000000) (he:0<s.ents):
 Calls Tryz.prog 303 #[.pointer (some ⟨g,0,none⟩),.int .u64 (x:Int),.int .i64 (rest:Int)] w (PkS w base g L (yb L.2.2.1 L.2.2.2.1 s x rest)):=by
 have hps:yb L.2.2.1 L.2.2.2.1 s x rest=if s.lo+x<18446744073709551616∧s.lo+x<s.mx then .ok (ql s s.hls (s.h++[(s.lo,s.lo+x)])) else .error 8:=by
  unfold yb;rw[ht];rfl
 rw[hps];clear hps;obtain⟨hg,V,cu,hR,hB⟩:=h;obtain⟨hE,c,y,rfl,hbc,hy,hC⟩:EntO w base V s.v s.rep s.mx s.h∧CuAt w base cu (some s.lo) s.h:=by unfold PkB at hB;rw[ht] at hB;exact hB
 obtain rfl:=hy s.lo rfl;obtain⟨ge,cap,rfl,hge,hgl,⟨Cg,fr,hrow⟩,-,-,-,-⟩:=hE.at
 have HC:=hid (zlf c 1 s.lo x s.h.getLast? w hC hF.lo hx);have HF:=hid hF;have q10:=hR.cell 10 rfl;have HR:=hid hR;have HE:=hid hE;have HCu:=hid hC;have Hne:=hid (hR.ne hC (by decide));have Hbw:=hid (show base≤w.heap.size by have:=hR.lt;omega);have He:=hid he;have hvl:s.v.length≤1000000000000:=by have:=hF.vl;omega
 have Hgg:=hid (show g≠ge from fun e=>by
  subst e;unfold Row at hR;rw[hrow] at hR;injection hR with hR;injection hR with _ hR _;cases hR)
 have Hcg:=hid (show c≠ge from fun e=>by
  subst e;unfold Row at hC;rw[hrow] at hC;injection hC with hC;injection hC with _ hC _;cases hC)
 clear hB hy hR hE hC hF hx he ht hrow;unfold zec at HC;by_cases hlt:s.lo+x<18446744073709551616
 · have HC2:=hid (HC.out.mono fun e w' h=>by rw[if_pos hlt] at h;exact h);have Hlt:=hid hlt;have Hs:=hid (show yj [(s.lo,s.lo+x)] from zpj HF.out.lo hlt);clear HC;obtain⟨n,hn⟩:∃n,n=s.v.length:=⟨_,rfl⟩;have Hn:=hid hn;rw[←hn] at hvl;clear hlt hn;generalize hz:s.lo+x=z at*;clear hz;by_cases hm:z<s.mx
   · rw[if_pos ⟨Hlt.out,hm⟩];have d1:decide ((s.mx:Int)≤(z:Int))=false:=by rw[decide_eq_false_iff_not];omega
     have d2:decide (s.mx≤z)=false:=by rw[decide_eq_false_iff_not];omega
     clear hm;go_enter Tryz.func303,Tryz.ntmps303;go_wp2_with fail;refine HC2.out.mono ?_;rintro e w1 ⟨rfl,hc1,hg1⟩;have hR1:=HR.out.grown hg1 (fun e=>Hne.out (by injection e));have hE1:=HE.out.grown (HCu.out.notT (by rintro(h | h | h) <;> cases h)) hg1;have Hb1:=hid ((Below.refl base w).grown hg1 Hbw.out (fun k hk=>by injection hk with hk;omega));have hbl:∀o,Below w1.heap.size w1 (w1.alloc o):=fun o=>(Below.refl _ _).alloc (Nat.le_refl _) _
     have q7:=fun o=>(hR1.later (hbl o)).cell 7 rfl
     obtain⟨ge',cap',e',-,-,-,c0,c1,cf,S,lim,cS,-⟩:=hE1.at
     have e2:ge'=ge:=by injection e' with e1;injection e1 with e1;injection e1 with e1;exact e1.symm
     subst e2;rw[←Hn.out] at c1 cS;have m1:∀o,(w1.alloc o).cell? ⟨ge',n*3+1,none⟩=some (.int .u64 ((s.mx:Nat):Int)):=fun o=>((hbl o).cell (p:=⟨ge',n*3+1,none⟩) (ze c1)).trans c1
     have HR1:=hid hR1;have HE1:=hid hE1;have Hc1:=hid hc1;clear hR1 hE1 hc1 hg1 e' c0 c1 cf cS hbl;rw[←Hn.out] at q7;unfold ivV;go_wp2_with fail;go_quiet ((go_at_call 272;exact Calls.quiet_of (zft g ge' n cap _ (by exact q7 _) hvl)));obtain⟨w2,hw2⟩:∃w2,w2=w1.alloc (.cells #[.int .u64 ((s.lo:Nat):Int),.int .u64 ((z:Nat):Int)] 89):=⟨_,rfl⟩;have hb2:Below w1.heap.size w1 w2:=by rw[hw2];exact(Below.refl _ _).alloc (Nat.le_refl _) _
     have hX:Row w2 w1.heap.size 89 [.int .u64 ((s.lo:Nat):Int),.int .u64 ((z:Nat):Int)]:=by rw[hw2];exact zu _ _ _
     rw[←hw2];clear hw2 q7 m1;have hR2:=HR1.out.later hb2;have hE2:=HE1.out.later hb2;have q7:w2.cell? ⟨g,7,none⟩=some (.slice (some ⟨ge',0,none⟩) (n+1) cap):=by have:=hR2.cell 7 rfl;rw[←Hn.out] at this;exact this
     have x0:=hX.cell 0 rfl;have x1:=hX.cell 1 rfl;have HX:=hid hX;have HR2:=hid hR2;have HE2:=hid hE2;have Hb2:=hid hb2;obtain⟨ge2,cap2,e',-,-,-,c0,c1,cf,S,lim,cS,-⟩:=hE2.at
     have e2:ge2=ge':=by injection e' with e1;injection e1 with e1;injection e1 with e1;exact e1.symm
     subst e2;rw[←Hn.out] at cS hE2;have hhl:s.h.length+1≤1000000000000:=by have:=HF.out.hl;omega
     have Hhl:=hid hhl;have q7o:∀k o,((w2.drewN k).alloc o).cell? ⟨g,7,none⟩=some (.slice (some ⟨ge2,0,none⟩) (n+1) cap):=fun k o=>((((Below.refl w2.heap.size w2)).alloc (Nat.le_refl _) o).cell (p:=⟨g,7,none⟩) (ze q7)).trans q7
     have cSo:∀k o,((w2.drewN k).alloc o).cell? ⟨ge2,n*3+2,none⟩=some S:=fun k o=>((((Below.refl w2.heap.size w2)).alloc (Nat.le_refl _) o).cell (p:=⟨ge2,n*3+2,none⟩) (ze cS)).trans cS
     clear hX hR2 hb2 e' c0 c1 cf hhl;go_wp2_with fail
     go_region_law (first
      | (go_simp;go_at_call 272;refine(zft g ge2 n cap _ (by first | exact q7 | exact q7o _ _) hvl).mono ?_;rintro e w3 ⟨rfl,k,rfl⟩)
      | (refine zt8 rfl (.tmp 38) (.tmp 40) rfl rfl hE2 Hn.out cS (s.lo,z) ?hW rfl _ _ rfl (kx (qi _ _ _ (by simp)) rfl rfl) Hhl.out ?_
         case hW=>repeat (first | exact Below.refl _ _ | refine Below.alloc ?_ (by simp) _ | refine Below.drew ?_ | refine zq ?_ _)
         intro gS cS w4 hO;have hq:=hO.cell;have hf:=hO.frozen;have HO:=hid hO;clear hO))
     all_goals go_wp2_with fail
     all_goals
      have hR4:=HO.out.row g _ _ HR2.out (by decide);have hC4:=HO.out.row c _ _ (Hc1.out.later Hb2.out) (by decide);have hfin:=HO.out.fin w4 (qf _ _);have e9:(s.h++[(s.lo,z)]).length=s.h.length+1:=by simp
      rw[e9] at hfin;have hR5:=hR4.other (a:=⟨ge2,n*3+2,none⟩) Hgg.out (.slice (some ⟨gS,0,none⟩) (s.h.length+1) cS);have HC5:=hid (hC4.other (a:=⟨ge2,n*3+2,none⟩) Hcg.out (.slice (some ⟨gS,0,none⟩) (s.h.length+1) cS));have HB5:=hid ((((Hb1.out.trans (Hb2.out.mono (Nat.le_trans Hbw.out Hb1.out.size)))).trans HO.out.below).setCell (p:=⟨ge2,n*3+2,none⟩) hge (.slice (some ⟨gS,0,none⟩) (s.h.length+1) cS));have HH:=hid (zlw g L nx _ _ s s.hls (s.h++[(s.lo,z)]) _ hR5 He.out HF.out.ents HF.out.hls);have HE5:=hid hfin;have HR5:=hid hR5;clear hR4 hC4 hfin e9 hR5 hq hf x0 x1 cSo q7o hE2 q10;refine HH.out.mono ?_;rintro e w6 ⟨rfl,hR6,hg6⟩;have HR6:=hid hR6;have hN:=HR5.out.notT (by rintro(h | h | h) <;> cases h);have HE6:=hid (HE5.out.grown hN hg6);have HC6:=hid (HC5.out.grown hg6 (fun e=>by injection e with e;exact Hne.out e.symm));have Hb6:=hid (HB5.out.grown hg6 (by have:=HB5.out.size;have:=Hbw.out;omega) (fun k hk=>by injection hk with hk;omega));clear hR6 hN hg6;generalize hnh:ql s s.hls (s.h++[(s.lo,z)])=s' at*;have Hnh:=hid hnh;clear hnh;generalize hF:pkF g s'.tag=F at*;have HF':=hid hF;clear hF;go_wp2_with fail;go_ret2;refine⟨Hb6.out,nx,by rw[HF'.out];rfl,hg,_,_,HR6.out,?_⟩;rw[←Hnh.out];refine zlx (by rw[←Hn.out];exact HE6.out) ⟨c,s.lo,rfl,hbc,fun y h=>(by cases h),?_⟩ (fun t ht=>?_)
      · have e8:(s.h++[(s.lo,z)]).getLast?=some (s.lo,z):=by simp
        rw[e8];exact HC6.out
      · rcases List.mem_append.1 ht with h | h
        · exact HF.out.h t h
        · exact Hs.out t h
   · rw[if_neg (fun h=>hm h.2)];have d1:decide ((s.mx:Int)≤(z:Int))=true:=by rw[decide_eq_true_iff];omega
     have d2:decide (s.mx≤z)=true:=by rw[decide_eq_true_iff];omega
     clear hm;go_enter Tryz.func303,Tryz.ntmps303;go_wp2_with fail;refine HC2.out.mono ?_;rintro e w1 ⟨rfl,hc1,hg1⟩;have hR1:=HR.out.grown hg1 (fun e=>Hne.out (by injection e));have hE1:=HE.out.grown (HCu.out.notT (by rintro(h | h | h) <;> cases h)) hg1;have Hb1:=hid ((Below.refl base w).grown hg1 Hbw.out (fun k hk=>by injection hk with hk;omega));have hbl:∀o,Below w1.heap.size w1 (w1.alloc o):=fun o=>(Below.refl _ _).alloc (Nat.le_refl _) _
     have q7:=fun o=>(hR1.later (hbl o)).cell 7 rfl
     obtain⟨ge',cap',e',-,-,-,c0,c1,cf,S,lim,cS,-⟩:=hE1.at
     have e2:ge'=ge:=by injection e' with e1;injection e1 with e1;injection e1 with e1;exact e1.symm
     subst e2;rw[←Hn.out] at c1;have m1:∀o,(w1.alloc o).cell? ⟨ge',n*3+1,none⟩=some (.int .u64 ((s.mx:Nat):Int)):=fun o=>((hbl o).cell (p:=⟨ge',n*3+1,none⟩) (ze c1)).trans c1
     have HRf:=hid (fun o=>hR1.later (hbl o));have HBf:=hid (fun o=>Hb1.out.trans ((hbl o).mono (Nat.le_trans Hbw.out Hb1.out.size)));clear hR1 hE1 hc1 hg1 e' c0 c1 cf cS hbl;rw[←Hn.out] at q7;unfold ivV;go_wp2_with fail;go_quiet ((go_at_call 272;exact Calls.quiet_of (zft g ge' n cap _ (by exact q7 _) hvl)));all_goals go_wp2_with fail
     all_goals go_ret2
     all_goals exact⟨zq (HBf.out _) _,rfl,_,HRf.out _,rfl⟩
 · have HC2:=hid (HC.out.mono fun e w' h=>by rw[if_neg hlt] at h;exact h);rw[if_neg (fun h=>hlt h.1)];clear HC hlt;go_enter Tryz.func303,Tryz.ntmps303;go_wp2_with fail;refine HC2.out.mono ?_;rintro e w1 ⟨rfl,hc1,hg1⟩;have hR1:=HR.out.grown hg1 (fun e=>Hne.out (by injection e));have Hb1:=hid ((Below.refl base w).grown hg1 Hbw.out (fun k hk=>by injection hk with hk;omega));have hbl:∀o,Below w1.heap.size w1 (w1.alloc o):=fun o=>(Below.refl _ _).alloc (Nat.le_refl _) _
   have HRf:=hid (fun o=>hR1.later (hbl o));have HBf:=hid (fun o=>Hb1.out.trans ((hbl o).mono (Nat.le_trans Hbw.out Hb1.out.size)));clear hR1 hc1 hg1 hbl;unfold ivV;go_wp2_with fail;go_quiet (fail);all_goals go_wp2_with fail
   all_goals go_ret2
   all_goals exact⟨zq (HBf.out _) _,rfl,_,HRf.out _,rfl⟩
end
section
open Go.RowKit
def zcn (x:Err) (d:Int):Bool:=match x with | none=>false | some y=>decide (y.1=d)
theorem zua (x:Err) (d:Int) (w:World):Calls Tryz.prog 201 #[zn x,.iface 35 (.int .i64 d)] w fun e w'=>e=.returned (.bool (zcn x d))∧Below w.heap.size w w':=by
 rcases x with _ | ⟨c,_ | a⟩
 · exact(zox d w).mono fun e w' ⟨h1,h2⟩=>⟨h1,by subst h2;exact Below.refl _ _⟩
 · exact(zow c d w).mono fun e w' ⟨h1,h2⟩=>⟨h1,by subst h2;exact Below.refl _ _⟩
 · exact zp1 c a d w
theorem zub (x:Err) (d:Int) (g:Nat) (w:World) (hg:w.cell? ⟨g,0,none⟩=some (.int .i64 d)):
 Calls Tryz.prog 166 #[zn x,.slice (some ⟨g,0,none⟩) 1 1] w fun e w'=>e=.returned (.bool (zcn x d))∧Below w.heap.size w w':=by
 have HI:=hid (fun W=>zua x d W);have Hc:=hid (fun W (h:Below w.heap.size w W)=>(h.cell (p:=⟨g,0,none⟩) (ze hg)).trans hg);generalize zn x=v at*;generalize zcn x d=b at*;clear hg;go_enter Tryz.func166,Tryz.ntmps166;go_wp2;go_loopw [9] (fun i wr=>∃k:Nat,k≤1∧i=.int .i64 k∧Hid (Below w.heap.size w wr)∧Hid (k=1→b=false)) (fun i _=>1 - (intOf i).toNat)
 case atStart=>exact⟨0,by omega,rfl,hid (Below.refl _ _),fun h=>by cases h⟩
 case round=>
  obtain⟨k,hk,rfl,hb,he⟩:=hrel;have hq:=Hc.out _ hb.out;rcases(by omega:k=0∨k=1) with h0 | h1
  · have hd:decide ((k:Int)<1)=true:=by rw[decide_eq_true_iff];omega
    subst h0;go_wp2_with fail;refine(HI.out _).mono ?_;rintro e w1 ⟨rfl,hb1⟩;have Hb1:=hid (hb.out.trans (hb1.mono hb.out.size));clear hb1
    cases hbb:b with
    | true=>
     have Hbb:=hid hbb;clear hbb;go_wp2_with fail;go_ret
     exact⟨by rw[Hbb.out];rfl,Hb1.out⟩
    | false=>
     have Hbb:=hid hbb;clear hbb;go_wp2_with fail;go_roundw
     case rel=>exact⟨1,by omega,rfl,Hb1,fun _=>Hbb.out⟩
     case measure=>simp[intOf]
  · have hb0:=he.out h1;subst h1;have Hb0:=hid hb0;clear hb0;go_wp2_with fail;go_ret;exact⟨by rw[Hb0.out];rfl,hb.out⟩
theorem zuc (c a b:Nat) (w:World) (hD:Door w) (hab:a+b<9223372036854775808):
 Calls Tryz.prog 167 #[vd c a,.int .i64 (b:Int)] w fun e w'=>e=.returned (vd c (a+b))∧Below w.heap.size w w':=by
 have HD:=hid hD;have HC:=hid (fun W (h:Below w.heap.size w W)=>zaz (some ((c:Int),some (a:Int))) W (hD.below (Nat.le_refl _) h));have hs:IntKind.i64.wrap ((a:Int)+(b:Int))=((a+b:Nat):Int):=by rw[IntKind.wrap_i64];omega
 clear hD hab;unfold vd;simp only[zn,kw] at HC;go_enter Tryz.func167,Tryz.ntmps167;go_wp2_with fail;refine(zjc (c:Int) (a:Int) _ HD.out).mono ?_;rintro e w1 ⟨rfl,hb1⟩;have hb2:=hb1.trans ((Below.refl w1.heap.size w1).alloc (Nat.le_refl _) (.cells #[.int .i64 (c:Int),.int .i64 (a:Int)] 112) |>.mono hb1.size);have Hb2:=hid hb2;clear hb1 hb2;go_wp2_with fail;have Hq:=hid (fun W (h:Below (w1.alloc (.cells #[.int .i64 (c:Int),.int .i64 (a:Int)] 112)).heap.size (w1.alloc (.cells #[.int .i64 (c:Int),.int .i64 (a:Int)] 112)) W)=>show W.cell? ⟨w1.heap.size,1,none⟩=some (.int .i64 (a:Int)) from(h.cell (p:=⟨w1.heap.size,1,none⟩) (by simp)).trans (by go_simp));generalize w1.alloc (.cells #[.int .i64 (c:Int),.int .i64 (a:Int)] 112)=w2 at*;refine vv (by kernel_rfl) (by kernel_rfl) ?_
 repeat (go_big_quiet_step ((intro hw;first
  | rfl
  | (go_at_call 19;exact vu hw (HC.out _ (Hb2.out.trans (hw.mono Hb2.out.size))))
  | (have q0:=Hq.out _ hw
     go_simp;first | rfl | exact⟨rfl,hw⟩ | (trace_state;fail)))))
 refine wpQuiet_nil ?_;intro w3 hb3;have Hb3:=hid (Hb2.out.trans (hb3.mono Hb2.out.size));clear hb3;go_wp2_with fail;go_ret;exact⟨rfl,Hb3.out⟩
theorem UsedM.grownT {w w':World} {U g:Nat} {ix:List Nat} {T:TypeId} {C:List Value} (h:UsedM w U ix) (hR:Row w g T C) (hg:w.grownBy w' (some g)):UsedM w' U ix:=
 h.same (hg.block U h.lt (fun e=>by injection e with e;exact h.ne (show w.heap[g]?=_ from hR) e))
structure VRows (w:World) (base R:Nat) (L:zb) (part K:Value) (U C B left:Nat) (fr:Int) (ip:Value) (ix:List Nat) (vs:List Vec):Prop where
 row:Row w R 130 (wkC L part K U C .nilIface)
 vrow:Row w B 199 (vcC left fr ip)
 cur:Row w C 193 (qj C 0 0 none false)
 used:UsedM w U ix
 kv:KV w base K vs
theorem zfv {W:World} {base R:Nat} {L:zb} {part K:Value} {U C B left:Nat} {fr:Int} {ip:Value} {ix:List Nat} {vs:List Vec} (h:VRows W base R L part K U C B left fr ip ix vs) (hb:base≤R) {V:Value} {v:Vec} (hV:EnSl W 0 V v) (hl:vs.length+1≤1000000000000):
 ∃gK cK w3,(Builtin.append_ #[27,27] 27 #[K,.slice (some ⟨W.heap.size,0,none⟩) 1 1]).run Tryz.prog (W.alloc (.cells #[.slice none 0 0,V] 97))=.ok (.slice (some ⟨gK,0,none⟩) (vs.length+1) cK) w3∧Below base W w3∧
  Row w3 R 130 (wkC L part K U C .nilIface)∧Row w3 B 199 (vcC left fr ip)∧Row w3 C 193 (qj C 0 0 none false)∧UsedM w3 U ix∧KV w3 base (.slice (some ⟨gK,0,none⟩) (vs.length+1) cK) (vs++[v]):=by
 have hal:Below W.heap.size W (W.alloc (.cells #[.slice none 0 0,V] 97)):=(Below.refl _ _).alloc (Nat.le_refl _) _;have hbW:base≤W.heap.size:=by have:=h.row.lt;omega
 have hVs:EnSl (W.alloc (.cells #[.slice none 0 0,V] 97)) 0 V v:=hV.steady (P:=fun _=>True) (.of_below hal) trivial trivial;have hKa:=h.kv.later hal;obtain⟨K',w3,hrun,hK',hg,hk⟩:=hKa.snoc hVs (some ⟨W.heap.size,0,none⟩) 1 (kx (qi W (.cells #[.slice none 0 0,V] 97) _ rfl) rfl rfl) hl (Nat.le_trans hbW hal.size);have hK2:=hK';obtain⟨Y,hoK,-⟩:=hK2;obtain⟨gK,cK,e,-⟩:=zbc hoK (by simp);have eL:(vs++[v]).length=vs.length+1:=by simp
 rw[eL] at e;subst e;obtain⟨Y0,ho0,-⟩:=hKa;have ne:∀{g T C},Row (W.alloc (.cells #[.slice none 0 0,V] 97)) g T C→T≠97→some g≠K.ownBlock:=fun hR hT e=>hR.ne_own ho0 hT _ e.symm rfl
 refine⟨gK,cK,w3,hrun,Below.grown (hal.mono hbW) hg (Nat.le_trans hbW hal.size) hk,(h.row.later hal).grown hg (ne (h.row.later hal) (by decide)),(h.vrow.later hal).grown hg (ne (h.vrow.later hal) (by decide)),(h.cur.later hal).grown hg (ne (h.cur.later hal) (by decide)),?_,hK'⟩;have hU:=h.used.same (hal.block U h.used.lt);refine hU.same (hg.block U hU.lt fun e=>?_);rcases ho0.2 with ⟨e',_⟩ | ⟨b,cap,cur,e',_,hh,_⟩
 · rw[e'] at e;cases e
 · rw[e'] at e;injection e with e;subst e;exact hU.ne hh rfl
theorem zb0 {w:World} {base R:Nat} {L:zb} {part K:Value} {U C B left:Nat} {fr:Int} {ip:Value} {ix:List Nat} {vs:List Vec} {K':Value} (hR:Row w R 130 (wkC L part K U C .nilIface)) (hB:Row w B 199 (vcC left fr ip)) (hC:Row w C 193 (qj C 0 0 none false)) (hu:UsedM w U ix) (hK:KV w base K' vs) (left':Nat):
 VRows (((w.setCell ⟨R,6,none⟩ K').setCell ⟨B,1,none⟩ (.int .i64 (-1))).setCell ⟨B,0,none⟩ (.int .u64 (left':Int))) base R L part K' U C B left' (-1) ip ix vs:=by
 have g1:=jk w R 6 K';have hR1:Row (w.setCell ⟨R,6,none⟩ K') R 130 (wkC L part K' U C .nilIface):=hR.set 6 _;have nRB:=hR.ne hB (by decide);have hB1:=hB.grown g1 (fun e=>by injection e with e;exact nRB e.symm);have hC1:=hC.grown g1 (fun e=>by injection e with e;exact hR.ne hC (by decide) e.symm);have hu1:=hu.grownT hR g1;have hK1:=hK.grown (hR.notT (by rintro(h | h | h) <;> cases h)) g1;have g2:(w.setCell ⟨R,6,none⟩ K').grownBy (((w.setCell ⟨R,6,none⟩ K').setCell ⟨B,1,none⟩ (.int .i64 (-1))).setCell ⟨B,0,none⟩ (.int .u64 (left':Int))) (some B):=zj (a:=⟨B,0,none⟩) (zj (a:=⟨B,1,none⟩) (qf _ _) _ (.inr rfl)) _ (.inr rfl);refine⟨hR1.grown g2 (fun e=>by injection e with e;exact nRB e),(hB1.set 1 (.int .i64 (-1))).set 0 (.int .u64 (left':Int)),hC1.grown g2 (fun e=>by injection e with e;exact hB1.ne hC1 (by decide) e.symm),hu1.grownT hB1 g2,hK1.grown (hB1.notT (by rintro(h | h | h) <;> cases h)) g2⟩
theorem VRows.more {w:World} {base R:Nat} {L:zb} {K ip:Value} {U C B left:Nat} {s:WS} {vs:List Vec} (h:VRows w base R L (.iface 196 (.pointer (some ⟨B,0,none⟩))) K U C B left (-1) ip s.ix vs) (ht:s.tag=1) (hR:base≤R) (hU:base≤U) (hC:base≤C) (hB:base≤B):WkR w base R L { s with vs:=vs,left:=left,inner:=ps0 }:=by
 refine⟨hR,_,K,U,C,hU,hC,h.row,h.used,?_⟩;unfold WkB;simp only[ht];exact⟨B,rfl,hB,h.cur,.inl ⟨rfl,⟨ip,h.vrow⟩,h.kv⟩⟩
theorem VRows.mid {w:World} {base R:Nat} {L:zb} {part K ip:Value} {U C B left:Nat} {fr:Int} {s:WS} {vs:List Vec} (h:VRows w base R L part K U C B left fr ip s.ix vs) (hR:base≤R) (hU:base≤U) (hC:base≤C):WkR (w.setCell ⟨R,5,none⟩ (.iface 200 (.agg #[]))) base R L { s with tag:=2,vs:=vs,left:=0,inner:=ps0 }:=by
 have g1:=jk w R 5 (.iface 200 (.agg #[]));exact⟨hR,_,K,U,C,hU,hC,h.row.set 5 _,h.used.grownT h.row g1,rfl,h.kv.grown (h.row.notT (by rintro(h | h | h) <;> cases h)) g1,h.cur.grown g1 (fun e=>by injection e with e;exact h.row.ne h.cur (by decide) e.symm)⟩
