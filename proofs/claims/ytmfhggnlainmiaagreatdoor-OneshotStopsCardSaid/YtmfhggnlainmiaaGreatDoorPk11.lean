/- Part 11. -/
import Derived.Test.YtmfhggnlainmiaaGreatDoorPk10
set_option linter.unusedVariables false
set_option maxHeartbeats 16000000
namespace Go.Proofs.YtmfhggnlainmiaaGreatDoor
open Lib (hid)
section
structure PFit (s:PS) (n:Nat):Prop where
 v:LtV s.v
 vl:s.v.length≤n
 rep:s.rep<18446744073709551616
 mx:s.mx<18446744073709551616
 lo:s.lo<18446744073709551616
 h:zo s.h
 hl:s.h.length≤n
 ents:s.ents<18446744073709551616
 hls:s.hls<18446744073709551616
theorem PFit.mono {s:PS} {n m:Nat} (h:PFit s n) (hm:n≤m):PFit s m:=⟨h.v,Nat.le_trans h.vl hm,h.rep,h.mx,h.lo,h.h,Nat.le_trans h.hl hm,h.ents,h.hls⟩
theorem zoj (n:Nat):PFit ps0 n:=⟨fun e h=>(by cases h),Nat.zero_le _,by decide,by decide,by decide,fun t h=>(by cases h),Nat.zero_le _,by decide,by decide⟩
theorem zyk {s:PS} {n k:Nat} {l:List Iv} (hs:PFit s n) (hk:k<18446744073709551616) (hl:zo l) (hn:l.length≤n+1):PFit (zah s k l) (n+1):=by
 have hv:LtV (s.v++[(s.rep,s.mx,l)]):=fun e he=>by
  rcases List.mem_append.1 he with h | h
  · exact hs.v e h
  · rw[List.mem_singleton] at h;subst h;exact⟨hs.rep,hs.mx,hl⟩
 have hvl:(s.v++[(s.rep,s.mx,l)]).length≤n+1:=by have:=hs.vl;simp;omega
 have he:=hs.ents;unfold zah;split
 · exact⟨hs.v,by have:=hs.vl;simp only;omega,hs.rep,hs.mx,hs.lo,hl,hn,hs.ents,by simp only;omega⟩
 · split
   · exact⟨hv,hvl,hs.rep,hs.mx,hs.lo,fun t h=>(by cases h),Nat.zero_le _,by simp only;omega,by simp⟩
   · exact⟨hv,hvl,hs.rep,hs.mx,hs.lo,fun t h=>(by cases h),Nat.zero_le _,by simp only;omega,by simp⟩
theorem zsg {o:Option Nat} {a x lo:Nat} (hx:x<18446744073709551616) (h:loP o a x=some lo):lo<18446744073709551616:=by
 cases o with
 | none=>cases h;exact hx
 | some q=>
  simp only[loP] at h;split at h
  · cases h;assumption
  · cases h
theorem yao {v:Vec} {x r:Nat} (hx:x<18446744073709551616) (h:zbu v x=some r):r<18446744073709551616:=by
 unfold zbu at h;split at h
 · cases h;exact hx
 · split at h
   · cases h;assumption
   · cases h
theorem zsh {le lh:Int} {s s':PS} {x rest n:Nat} (hs:PFit s n) (ht:s.tag<6) (hx:x<18446744073709551616) (h:jm le lh s x rest=.ok s'):PFit s' (n+1):=by
 have hm:=hs.mono (Nat.le_succ n);obtain⟨tag,v,rep,mx,hh,ents,hls,lo⟩:=s;simp only at ht;rcases(by omega:tag=0∨tag=1∨tag=2∨tag=3∨tag=4∨tag=5) with rfl | rfl | rfl | rfl | rfl | rfl <;> simp only[jm] at h
 · split at h
   · cases h
   · split at h
     · cases h
     · cases h;exact⟨fun e h=>(by cases h),Nat.zero_le _,hm.rep,hm.mx,hm.lo,hm.h,hm.hl,hx,hm.hls⟩
 · cases hr:zbu v x with
   | none=>rw[hr] at h;cases h
   | some r=>rw[hr] at h;cases h;exact⟨hm.v,hm.vl,yao hx hr,hm.mx,hm.lo,hm.h,hm.hl,hm.ents,hm.hls⟩
 · cases h;exact⟨hm.v,hm.vl,hm.rep,hx,hm.lo,hm.h,hm.hl,hm.ents,hm.hls⟩
 · split at h
   · cases h
   · cases h;exact zyk hs hx (fun t h=>(by cases h)) (Nat.zero_le _)
 · cases hr:loP (qr hh) 1 x with
   | none=>rw[hr] at h;cases h
   | some r=>rw[hr] at h;cases h;exact⟨hm.v,hm.vl,hm.rep,hm.mx,zsg hx hr,hm.h,hm.hl,hm.ents,hm.hls⟩
 · split at h
   · rename_i hc;cases h;refine zyk hs hs.hls (fun t ht=>?_) (by have:=hs.hl;simp only[List.length_append,List.length_cons,List.length_nil] at this ⊢;omega);rcases List.mem_append.1 ht with h | h
     · exact hs.h t h
     · rw[List.mem_singleton] at h;subst h;exact⟨hs.lo,hc.1⟩
   · cases h
structure WFit (s:WS) (n:Nat):Prop where
 vs:∀v∈s.vs,LtV v
 vsl:s.vs.length≤n
 l:zo s.l
 ll:s.l.length≤n
 li:s.ix.length=s.l.length
 ix:∀i∈s.ix,i<s.vs.length
 left:s.left<18446744073709551616
 lo:s.lo<18446744073709551616
 hi:s.hi<18446744073709551616
 frm:s.frm≤n
 inner:PFit s.inner n
theorem yap:WFit ws0 0:=⟨fun v h=>(by cases h),Nat.le_refl _,fun t h=>(by cases h),Nat.le_refl _,rfl,fun i h=>(by cases h),by decide,by decide,by decide,Nat.le_refl _,zoj 0⟩
theorem WFit.mono {s:WS} {n m:Nat} (h:WFit s n) (hm:n≤m):WFit s m:=⟨h.vs,Nat.le_trans h.vsl hm,h.l,Nat.le_trans h.ll hm,h.li,h.ix,h.left,h.lo,h.hi,Nat.le_trans h.frm hm,h.inner.mono hm⟩
theorem zlt {E:Nat} {L:zc} {s s':WS} {x p q:Nat} (hs:WFit s p) (hI:WInv s) (h4:s.tag<4) (hx:x<18446744073709551616) (hq:p<q) (h:jd E L s x p q=.ok s'):WFit s' q:=by
 have hm:=hs.mono (Nat.le_of_lt hq)
 have fin:∀t:WS,WFit t q→∀t',zbn E t q=.ok t'→WFit t' q:=fun t ht t' h=>by
  unfold zbn at h;split at h
  · cases h
  · split at h
    · cases h
    · cases h;exact⟨ht.vs,ht.vsl,ht.l,ht.ll,ht.li,ht.ix,ht.left,ht.lo,ht.hi,ht.frm,ht.inner⟩
 have h2:=hI.turn;have hin:=hI.inner;obtain⟨tag,vs,l,ix,left,frm,inner,turn,lo,hi,tch⟩:=s;simp only at h2 hin h4
 have hfr:zbd ⟨tag,vs,l,ix,left,frm,inner,turn,lo,hi,tch⟩ p≤q:=by
  unfold zbd;have:=hs.frm;simp only at this ⊢;split <;> omega
 have g1:=hs.vsl;have g2:=hs.ll;have g3:=hs.left;simp only at g1 g2 g3;rcases(by omega:tag=0∨tag=1∨tag=2∨tag=3) with rfl | rfl | rfl | rfl <;> simp only[jd] at h
 · split at h
   · cases h
   · split at h
     · cases h;exact⟨hm.vs,hm.vsl,hm.l,hm.ll,hm.li,hm.ix,hm.left,hm.lo,hm.hi,hm.frm,hm.inner⟩
     · cases h;exact⟨hm.vs,hm.vsl,hm.l,hm.ll,hm.li,hm.ix,hx,hm.lo,hm.hi,hm.frm,zoj q⟩
 · obtain⟨i1,i2⟩:=hin rfl
   cases hp:jm L.2.2.1 L.2.2.2.1 inner x (E - q) with
   | error c=>rw[hp] at h;cases h
   | ok i=>
    rw[hp] at h;simp only at h;have hi':=(zsh hs.inner i1 hx hp).mono hq
    have hvs:∀v∈vs++[i.v],LtV v:=fun v hv=>by
     rcases List.mem_append.1 hv with h | h
     · exact hs.vs v h
     · rw[List.mem_singleton] at h;subst h;exact hi'.v
    have hvl:(vs++[i.v]).length≤q:=by simp;omega
    have hix:∀j∈ix,j<(vs++[i.v]).length:=fun j hj=>by have:=hs.ix j hj;simp only[List.length_append] at this ⊢;omega
    split at h
    · split at h
      · cases h
      · split at h
        · cases h;exact⟨hvs,hvl,hm.l,hm.ll,hm.li,hix,by simp,hm.lo,hm.hi,hm.frm,zoj q⟩
        · cases h;exact⟨hvs,hvl,hm.l,hm.ll,hm.li,hix,by simp only;omega,hm.lo,hm.hi,hm.frm,zoj q⟩
    · cases h;exact⟨hm.vs,hm.vsl,hm.l,hm.ll,hm.li,hm.ix,hm.left,hm.lo,hm.hi,hfr,hi'⟩
 · split at h
   · cases h
   · split at h
     · exact fin _ hm _ h
     · cases h;exact⟨hm.vs,hm.vsl,hm.l,hm.ll,hm.li,hm.ix,hx,hm.lo,hm.hi,hm.frm,hm.inner⟩
 · rcases(by omega:turn=0∨turn=1∨turn=2) with rfl | rfl | rfl <;> simp only at h
   · cases hq':loP (qr l) 0 x with
     | none=>rw[hq'] at h;cases h
     | some r=>rw[hq'] at h;cases h;exact⟨hm.vs,hm.vsl,hm.l,hm.ll,hm.li,hm.ix,hm.left,zsg hx hq',hm.hi,hm.frm,hm.inner⟩
   · split at h
     · rename_i hc;cases h;exact⟨hm.vs,hm.vsl,hm.l,hm.ll,hm.li,hm.ix,hm.left,hm.lo,hc,hm.frm,hm.inner⟩
     · cases h
   · split at h
     · cases h
     · rename_i hx8
       have k1:zo (l++[(lo,hi)]):=fun t ht=>by
        rcases List.mem_append.1 ht with h | h
        · exact hs.l t h
        · rw[List.mem_singleton] at h;subst h;exact⟨hs.lo,hs.hi⟩
       have k2:(l++[(lo,hi)]).length≤q:=by simp;omega
       have k3:(ix++[x]).length=(l++[(lo,hi)]).length:=by have:=hs.li;simp only[List.length_append,List.length_cons,List.length_nil] at this ⊢;omega
       have k4:∀j∈ix++[x],j<vs.length:=fun j hj=>by
        rcases List.mem_append.1 hj with h | h
        · exact hs.ix j h
        · rw[List.mem_singleton] at h;subst h;omega
       split at h
       · cases h
       · split at h
         · exact fin ⟨3,vs,l++[(lo,hi)],ix++[x],0,frm,inner,0,lo,hi,tch⟩ ⟨hm.vs,hm.vsl,k1,k2,k3,k4,by simp,hm.lo,hm.hi,hm.frm,hm.inner⟩ _ h
         · cases h;exact⟨hm.vs,hm.vsl,k1,k2,k3,k4,by simp only;omega,hm.lo,hm.hi,hm.frm,hm.inner⟩
def zix (s:WS):Prop:=1≤s.turn→s.tch=true→s.l≠[]
theorem yaq:zix ws0:=fun h=>by simp[ws0] at h
theorem yar {l:List Iv} {z:Nat} (h:zc1 l z=true):l≠[]:=fun e=>by subst e;cases h
theorem yas {E:Nat} {L:zc} {s s':WS} {x p q:Nat} (hs:zix s) (hI:WInv s) (h4:s.tag<4) (h:jd E L s x p q=.ok s'):zix s':=by
 have fin:∀t:WS,zix t→∀t',zbn E t q=.ok t'→zix t':=fun t ht t' h=>by
  unfold zbn at h;split at h
  · cases h
  · split at h
    · cases h
    · cases h;exact ht
 have h2:=hI.turn;obtain⟨tag,vs,l,ix,left,frm,inner,turn,lo,hi,tch⟩:=s;simp only at h2 h4;rcases(by omega:tag=0∨tag=1∨tag=2∨tag=3) with rfl | rfl | rfl | rfl <;> simp only[jd] at h
 · split at h
   · cases h
   · split at h
     · cases h;exact hs
     · cases h;exact hs
 · split at h
   · cases h
   · split at h
     · split at h
       · cases h
       · split at h
         · cases h;exact hs
         · cases h;exact hs
     · cases h;exact hs
 · split at h
   · cases h
   · split at h
     · exact fin _ hs _ h
     · cases h;exact fun h=>by simp at h
 · rcases(by omega:turn=0∨turn=1∨turn=2) with rfl | rfl | rfl <;> simp only at h
   · split at h
     · cases h
     · cases h;exact fun _ h=>yar h
   · split at h
     · cases h;exact fun _ h=>hs (by simp) h
     · cases h
   · split at h
     · cases h
     · split at h
       · cases h
       · split at h
         · exact fin ⟨3,vs,l++[(lo,hi)],ix++[x],0,frm,inner,0,lo,hi,tch⟩ (fun h=>by simp at h) _ h
         · cases h;exact fun h=>by simp at h
end
section
def Fwd (T:ye):Prop:=∀p x q,T p=.ok (x,q)→p<q
def okC (n:Nat) (lim:Int):Prop:=(n:Int)≤lim∨n=0
instance (n:Nat) (lim:Int):Decidable (okC n lim):=by unfold okC;infer_instance
theorem ziy {T:ye} {p x q:Nat} (h:T p=.ok (x,q)):nmP T p=.ok (x,q):=by unfold nmP;rw[h]
theorem yat {x rest:Nat} {lim:Int} (h1:okC x lim) (h2:x≤rest):ql x lim rest=0:=by
 unfold ql;rw[if_neg (by rintro⟨h3,h4⟩;rcases h1 with h | h <;> omega),if_neg (by omega)]
theorem yau {x rest:Nat} {lim:Int} (h1:¬okC x lim):ql x lim rest=7:=by
 unfold ql okC at*;rw[if_pos ⟨by omega,fun h=>h1 (.inr h)⟩]
theorem ziz {T:ye} {E p x q:Nat} {lim:Int} (h:T p=.ok (x,q)) (h1:okC x lim) (h2:q+x≤E):jf T E lim p=.ok (x,q):=by
 unfold jf;rw[ziy h,ja,yat h1 (by omega),if_pos rfl]
theorem zok {T:ye} {E p x q:Nat} {lim:Int} (h:T p=.ok (x,q)) (h1:¬okC x lim):jf T E lim p=.error (7,p):=by
 unfold jf;rw[ziy h,ja,yau h1,if_neg (by omega)]
theorem zlu {α:Type} {l:List α} {d:Nat} (hd:d<l.length):(l.take (d+1)).getLast?=some l[d]:=by
 rw[List.take_succ_eq_append_getElem hd];exact List.getLast?_concat
theorem yav {T:ye} {a b p q:Nat} (h:jq T p [a,b] q):∃r,T p=.ok (a,r)∧T r=.ok (b,q):=by
 obtain⟨r,h1,s,h2,rfl⟩:=h;exact⟨r,h1,h2⟩
theorem yaw {l:List Iv} {a d:Nat} (hD:zdg l a) (hlt:zo l) (hd:d<l.length):loP (qr (l.take d)) a (vz l a d)=some (zb l d).1:=by
 unfold qr vz
 cases d with
 | zero=>rw[if_pos rfl];simp[loP]
 | succ n=>
  have h1:=(hD (n+1) hd).2 (by omega);have h2:=hlt _ (zbo hd);rw[if_neg (by omega),zlu (by omega)];rw[show n+1 - 1=n by omega,jg (show n<l.length by omega)] at*;simp only[Option.map_some,loP];rw[if_pos (by omega)];congr 1;omega
theorem zyl {T:ye} {l:List Iv} {a d p q:Nat} (hD:zdg l a) (hlt:zo l) (hd:d<l.length) (h:jq T p [vz l a d,(zb l d).2 - (zb l d).1] q):∃w,ivP T (qr (l.take d)) a p=.ok ((zb l d,w),q):=by
 obtain⟨r,h1,h2⟩:=yav h;refine⟨r,?_⟩;have g1:=(hD d hd).1;have g2:=hlt _ (zbo hd);unfold ivP;rw[ziy h1,ja,yaw hD hlt hd];simp only[hiP];rw[ziy h2,ja,show (zb l d).1+((zb l d).2 - (zb l d).1)=(zb l d).2 by omega,if_pos g2.2]
theorem zym {T:ye} {mx:Nat} {h:List Iv} (hD:zdg h 1) (hlt:zo h) (hm:∀s∈h,s.2<mx):∀d,d≤h.length→∀{p r:Nat},jq T p (zal h 1 d) r→∀k,ke T mx (d+k) [] p=ke T mx k (h.take d) r
 | 0,_,p,r,hr,k=>by cases hr;rw[List.take_zero,Nat.zero_add]
 | d+1,hd,p,r,hr,k=>by
   rw[zal] at hr;obtain⟨s,h1,h2⟩:=zbr.1 hr;obtain⟨w,h3⟩:=zyl hD hlt hd h2;rw[show d+1+k=d+(k+1) by omega,zym hD hlt hm d (by omega) h1 (k+1),ke,h3,ja];unfold zc0;rw[if_neg (by have:=hm _ (zbo (show d<h.length from hd));simp only;omega),List.take_succ_eq_append_getElem hd,jg hd]
theorem zyn {T:ye} {E:Nat} {lim:Int} (hT:Fwd T) {v:Vec} (hv:CanV v) (hl:LtV v) (hm:∀e∈v,∀s∈e.2.2,s.2<e.2.1) {d p q:Nat} (hd:d<v.length) (h:jq T p (zam v d) q) (hq:q≤E):
 (okC (zg v d).2.2.length lim→zao T E lim (v.take d) p=.ok (zg v d,q))∧(¬okC (zg v d).2.2.length lim→∃w,zao T E lim (v.take d) p=.error (7,w)):=by
 have hmem:=vq hd;obtain⟨r3,⟨r1,t1,r2,t2,r2',t3,rfl⟩,h4⟩:=zbr.1 h
 have hrep:zbu (v.take d) (zdv v d)=some (zg v d).1:=by
  unfold zbu zdv
  cases d with
  | zero=>rw[if_pos rfl];simp
  | succ n=>
   have h1:=List.pairwise_iff_getElem.1 hv.asc n (n+1) (by omega) hd (by omega);have h2:=(hl _ hmem).rep;unfold zay at h1;rw[if_neg (by omega),zlu (by omega)];rw[j0 hd] at h2 ⊢;rw[show n+1 - 1=n by omega,j0 (show n<v.length by omega)];simp only;rw[if_pos (by omega)];congr 1;omega
 have hcan:=hv.ent _ hmem;have hlen:=ze8 hT h4;have hdl:(zau (zg v d).2.2 1).length=2*(zg v d).2.2.length:=zgn _ _ _;have hh:=zym (T:=T) (mx:=(zg v d).2.1) (zrw hcan.good) (hl _ hmem).holes (hm _ hmem) (zg v d).2.2.length (Nat.le_refl _) h4 0;rw[List.take_length,Nat.add_zero,ke] at hh;unfold zao;rw[ziy t1,ja,hrep];simp only[zer];rw[ziy t2,ja];unfold ze7;constructor
 · intro hc;rw[ziz t3 hc (by omega),ja,hh,ja]
 · intro hc;exact⟨r2,by rw[zok t3 hc,zea]⟩
theorem zyo {v:Vec} (hv:CanV v):∀e∈v,∀s∈e.2.2,s.2<e.2.1:=fun e he s hs=>by
 have h:=hv.ent e he;have h1:=h.below s hs;rcases Nat.lt_or_ge s.2 e.2.1 with h2 | h2
 · exact h2
 · have h3:=h.top;have h4:mem e.2.2 e.2.1=true:=mem_iff.2 ⟨s,hs,by have:=h.good.ok s hs;omega,by omega⟩;rw[h3] at h4;cases h4
theorem zsi {T:ye} {E:Nat} {lim:Int} (hT:Fwd T) {v:Vec} (hv:CanV v) (hl:LtV v):∀d,d≤v.length→∀{p r:Nat},jq T p (jn v d) r→r≤E→
 ∃r0,T p=.ok (v.length,r0)∧r0+d≤r∧∀k,(∀i,i<d→okC (zg v i).2.2.length lim)→vu T E lim (d+k) [] r0=vu T E lim k (v.take d) r
 | 0,_,p,r,hr,hE=>by
   obtain⟨r0,h1,rfl⟩:=hr
   exact⟨r0,h1,by omega,fun k _=>by rw[List.take_zero,Nat.zero_add]⟩
 | d+1,hd,p,r,hr,hE=>by
   rw[jn] at hr;obtain⟨s,h1,h2⟩:=zbr.1 hr;have h3:=ze8 hT h2;have h4:3≤(zam v d).length:=by unfold zam;simp
   obtain⟨r0,h5,h6,h7⟩:=zsi hT hv hl d (by omega) h1 (show s≤E by omega);refine⟨r0,h5,by omega,fun k hk=>?_⟩;rw[show d+1+k=d+(k+1) by omega,h7 (k+1) (fun i hi=>hk i (by omega)),vu,(zyn hT hv hl (zyo hv) hd h2 hE).1 (hk d (by omega)),ja,List.take_succ_eq_append_getElem hd,j0 hd]
theorem zyp {P:Nat→Prop} [DecidablePred P] {n:Nat} (h:¬∀i,i<n→P i):∃i,i<n∧¬P i∧∀j,j<i→P j:=by
 induction n with
 | zero=>exact absurd (fun i hi=>by omega) h
 | succ n ih=>
  by_cases h1:∀i,i<n→P i
  · refine⟨n,by omega,fun h2=>h fun i hi=>?_,h1⟩;rcases Nat.lt_or_ge i n with h3 | h3
    · exact h1 i h3
    · rwa [show i=n by omega]
  · obtain⟨i,hi,h2,h3⟩:=ih h1;exact⟨i,by omega,h2,h3⟩
def okV (le lh:Int) (v:Vec):Prop:=okC v.length le∧∀i,i<v.length→okC (zg v i).2.2.length lh
theorem zsj (v:Vec) (i:Nat):∀d,i≤d→∃R,jn v d=jn v i++R
 | 0,h=>⟨[],by rw[show i=0 by omega,List.append_nil]⟩
 | d+1,h=>by
   rcases Nat.lt_or_ge d i with h1 | h1
   · exact⟨[],by rw[show i=d+1 by omega,List.append_nil]⟩
   · obtain⟨R,e⟩:=zsj v i d h1;exact⟨R++zam v d,by rw[jn,e,List.append_assoc]⟩
theorem zyq {T:ye} {E:Nat} {le lh:Int} (hT:Fwd T) {v:Vec} (hv:CanV v) (hl:LtV v) (hne:v≠[]) {p r:Nat} (hr:jq T p (zan v) r) (hE:r≤E):
 (okV le lh v→za3 T E le lh p=.ok (v,r))∧(¬okV le lh v→∃w,za3 T E le lh p=.error (7,w)):=by
 obtain⟨r0,h1,h2,h3⟩:=zsi (E:=E) (lim:=lh) hT hv hl v.length (Nat.le_refl _) hr hE;have h0:v.length≠0:=fun h=>hne (List.length_eq_zero_iff.1 h)
 constructor
 · rintro⟨k1,k2⟩;have:=h3 0 k2;rw[Nat.add_zero,List.take_length,vu] at this;unfold za3;rw[ziz h1 k1 (by omega),ja,if_neg h0,this]
 · intro hn;by_cases k1:okC v.length le
   · obtain⟨i,hi,hb,hlt⟩:=zyp (P:=fun i=>okC (zg v i).2.2.length lh) (n:=v.length) (fun h=>hn ⟨k1,h⟩);obtain⟨R,e⟩:=zsj v (i+1) v.length hi;have hr':=hr;unfold zan at hr';rw[e] at hr';obtain⟨s,g1,g2⟩:=zbr.1 hr';have g3:=ze8 hT g2;rw[jn] at g1;obtain⟨t,g4,g5⟩:=zbr.1 g1;have g6:=ze8 hT g5;obtain⟨r0',h1',-,h3'⟩:=zsi (E:=E) (lim:=lh) hT hv hl i (by omega) g4 (by omega);obtain rfl:r0'=r0:=by rw[h1] at h1';injection h1' with h;injection h with _ h;exact h.symm
     obtain⟨w,hw⟩:=(zyn (E:=E) hT hv hl (zyo hv) hi g5 (by omega)).2 hb;have:=h3' (v.length - i) hlt;rw[show i+(v.length - i)=v.length by omega,show v.length - i=(v.length - i - 1)+1 by omega,vu,hw,zea] at this
     exact⟨w,by
      unfold za3;rw[ziz h1 k1 (by omega),ja,if_neg h0,this]⟩
   · exact⟨p,by
      unfold za3;rw[zok h1 k1,zea]⟩
end
section
open Go.RowKit
attribute [local go_sem] y9
def lmV (L:zc):Value:=.agg #[.int .i64 L.1,.int .i64 L.2.1,.int .i64 L.2.2.1,.int .i64 L.2.2.2.1,.int .i64 L.2.2.2.2]
def pkF (g:Nat):Nat→Value
 | 0=>.func (.func 258) #[.pointer (some ⟨g,0,none⟩)] #[]
 | 1=>.func (.func 297) #[.pointer (some ⟨g,0,none⟩)] #[]
 | 2=>.func (.func 328) #[.pointer (some ⟨g,0,none⟩)] #[]
 | 3=>.func (.func 337) #[.pointer (some ⟨g,0,none⟩)] #[]
 | 4=>.func (.func 342) #[.pointer (some ⟨g,0,none⟩)] #[]
 | 5=>.func (.func 343) #[.pointer (some ⟨g,0,none⟩)] #[]
 | _=>.nilFunc
def pkC (L:zc) (nx V:Value) (e h:Nat) (cu:Value):List Value:=
 [.int .i64 L.1,.int .i64 L.2.1,.int .i64 L.2.2.1,.int .i64 L.2.2.2.1,.int .i64 L.2.2.2.2,nx,.nilIface,V,.int .u64 (e:Int),.int .u64 (h:Int),cu]
def CuAt (w:World) (base:Nat) (cu:Value) (lo:Option Nat) (h:List Iv):Prop:=∃c x,cu=.pointer (some ⟨c,0,none⟩)∧base≤c∧(∀y,lo=some y→x=y)∧Row w c 230 (k8 c 1 x h.getLast? lo.isSome)
theorem CuAt.grown {w w':World} {base g:Nat} {cu:Value} {lo:Option Nat} {h:List Iv} {T:TypeId} {C:List Value} (hc:CuAt w base cu lo h) (hR:Row w g T C) (hT:T≠230) (hg:w.grownBy w' (some g)):CuAt w' base cu lo h:=by
 obtain⟨c,x,h1,h2,h3,h4⟩:=hc;exact⟨c,x,h1,h2,h3,h4.grown hg fun e=>by injection e with e;exact hR.ne h4 hT e.symm⟩
theorem CuAt.later {w w':World} {base:Nat} {cu:Value} {lo:Option Nat} {h:List Iv} (hc:CuAt w base cu lo h) (hb:Below w.heap.size w w'):CuAt w' base cu lo h:=by
 obtain⟨c,x,h1,h2,h3,h4⟩:=hc;exact⟨c,x,h1,h2,h3,h4.later hb⟩
def PkB (w:World) (base:Nat) (s:PS) (V cu:Value):Prop:=
 match s.tag with
 | 0=>V=.slice none 0 0
 | 1=>OwnV w base V s.v
 | 2=>EntO w base V s.v s.rep 0 []
 | 3=>EntO w base V s.v s.rep s.mx []
 | 4=>EntO w base V s.v s.rep s.mx s.h∧CuAt w base cu none s.h
 | 5=>EntO w base V s.v s.rep s.mx s.h∧CuAt w base cu (some s.lo) s.h
 | _=>OwnV w base V s.v
theorem PkB.later {w w':World} {base:Nat} {s:PS} {V cu:Value} (h:PkB w base s V cu) (hb:Below w.heap.size w w'):PkB w' base s V cu:=by
 unfold PkB at h ⊢;split at h
 · exact h
 · exact h.below hb
 · exact h.later hb
 · exact h.later hb
 · exact⟨h.1.later hb,h.2.later hb⟩
 · exact⟨h.1.later hb,h.2.later hb⟩
 · exact h.below hb
theorem PkB.grown {w w':World} {base g:Nat} {s:PS} {V cu:Value} {C:List Value} (h:PkB w base s V cu) (hR:Row w g 347 C) (hg:w.grownBy w' (some g)):PkB w' base s V cu:=by
 have hN:NotT w g:=hR.notT (by rintro(h | h | h) <;> cases h);unfold PkB at h ⊢;split at h
 · exact h
 · exact h.grown hN hg
 · exact h.grown hN hg
 · exact h.grown hN hg
 · exact⟨h.1.grown hN hg,h.2.grown hR (by decide) hg⟩
 · exact⟨h.1.grown hN hg,h.2.grown hR (by decide) hg⟩
 · exact h.grown hN hg
def PkR (w:World) (base g:Nat) (L:zc) (nx:Value) (s:PS):Prop:=base≤g∧∃V cu,Row w g 347 (pkC L nx V s.ents s.hls cu)∧PkB w base s V cu
theorem PkR.later {w w':World} {base g:Nat} {L:zc} {nx:Value} {s:PS} (h:PkR w base g L nx s) (hb:Below w.heap.size w w'):PkR w' base g L nx s:=by
 obtain⟨h1,V,cu,h2,h3⟩:=h;exact⟨h1,V,cu,h2.later hb,h3.later hb⟩
def PkS (w:World) (base g:Nat) (L:zc) (r:Except Nat PS) (e:Ending) (w':World):Prop:=
 BelT base w w'∧match r with
 | .error c=>e=.returned (.tuple #[.nilFunc,.iface 27 (.int .i64 (c:Int))])∧∃C,Row w' g 347 C∧C.length=11
 | .ok s'=>∃nx,e=.returned (.tuple #[pkF g s'.tag,.nilIface])∧PkR w' base g L nx s'
def zj6 (c:Nat):Value:=if c=0 then .nilIface else .iface 27 (.int .i64 (c:Int))
def I64 (l:Int):Prop:= -9223372036854775808≤l∧l≤9223372036854775807
structure LimsI (L:zc):Prop where
 a:I64 L.1
 b:I64 L.2.1
 c:I64 L.2.2.1
 d:I64 L.2.2.2.1
 e:I64 L.2.2.2.2
theorem zyr (x:Nat) (lim:Int) (rest:Nat):(max lim 0<(x:Int)∧ql x lim rest=7)∨(¬max lim 0<(x:Int)∧rest<x∧ql x lim rest=5)∨(¬max lim 0<(x:Int)∧¬rest<x∧ql x lim rest=0):=by
 unfold ql;by_cases h1:max lim 0<(x:Int)
 · left;refine⟨h1,if_pos ?_⟩;omega
 · by_cases h2:rest<x
   · right;left;refine⟨h1,h2,?_⟩;rw[if_neg (by omega),if_pos h2]
   · right;right;refine⟨h1,h2,?_⟩;rw[if_neg (by omega),if_neg h2]
theorem zys (x:Nat) (lim:Int) (rest:Nat) (w:World) (hx:x<18446744073709551616) (hl:I64 lim) (hr:rest<9223372036854775808):
 Calls Tryz.prog 296 #[.int .u64 (x:Int),.int .i64 lim,.int .i64 (rest:Int)] w fun e w'=>e=.returned (zj6 (ql x lim rest))∧w=w':=by
 have hc:=zyr x lim rest;obtain⟨l1,l2⟩:=hl;generalize ql x lim rest=c at*;have Hx:=hid hx;clear hx;by_cases hneg:lim<0
 · have e0:max lim 0=0:=by omega
   rw[e0] at hc;clear e0;rcases hc with ⟨h1,rfl⟩ | ⟨h1,h2,rfl⟩ | ⟨h1,h2,rfl⟩
   · have h1':0<x:=by omega
     clear h1;go_enter Tryz.func296,Tryz.ntmps296;go_wp2_with fail;go_ret;exact⟨rfl,rfl⟩
   · have h1':x=0:=by omega
     omega
   · obtain rfl:x=0:=by omega
     go_enter Tryz.func296,Tryz.ntmps296;go_wp2_with fail;go_ret;exact⟨rfl,rfl⟩
 · obtain⟨m,rfl⟩:=Int.eq_ofNat_of_zero_le (show 0≤lim by omega);have e0:max (m:Int) 0=(m:Int):=by omega
   rw[e0] at hc;clear e0;rcases hc with ⟨h1,rfl⟩ | ⟨h1,h2,rfl⟩ | ⟨h1,h2,rfl⟩
   · have h1':m<x:=by omega
     clear h1;go_enter Tryz.func296,Tryz.ntmps296;go_wp2_with fail;go_ret;exact⟨rfl,rfl⟩
   · have h1':¬m<x:=by omega
     clear h1;go_enter Tryz.func296,Tryz.ntmps296;go_wp2_with fail;go_ret;exact⟨rfl,rfl⟩
   · have h1':¬m<x:=by omega
     clear h1;go_enter Tryz.func296,Tryz.ntmps296;go_wp2_with fail;go_ret;exact⟨rfl,rfl⟩
end
section
open Go.RowKit
theorem Rf.keep {w w':World} {g:Nat} {a:Option Addr} {n cap E:Nat} {l:List Nat} (hB:∀W,w.grownBy W (some g)→Rf W a n cap E l) (h:w.grownBy w' (some g)):∀W,w'.grownBy W (some g)→Rf W a n cap E l:=fun W hW=>hB W (zw h hW)
theorem zfw {w w' w2:World} {r r2:Option Nat} (h:w.grownBy w' r) (h2:w'.grownBy w2 r2) (hk:∀k,r2=some k→w.heap.size≤k):w.grownBy w2 r:=
 ⟨h2.os.trans h.os,h2.tape.trans h.tape,h2.output.trans h.output,Nat.le_trans h.size h2.size,fun k hlt hne=>(h2.block k (Nat.lt_of_lt_of_le hlt h.size) (fun e=>by have:=hk k e.symm;omega)).trans (h.block k hlt hne)⟩
theorem CurM.grown {w w':World} {g:Nat} {B:Value} {E:Nat} {s:Except (Nat×Nat) Nat} {r:Option Nat} (h:CurM w g B E s) (hg:w.grownBy w' r) (hr:some g≠r):CurM w' g B E s:=by
 cases s with
 | ok q=>exact Row.grown h hg hr
 | error e=>obtain⟨q,h⟩:=h;exact⟨q,h.grown hg hr⟩
theorem CurM.ne_own {w:World} {g base sz n:Nat} {B V:Value} {E:Nat} {s:Except (Nat×Nat) Nat} {e:TypeId} {xs:List Value} (h:CurM w g B E s) (ho:w.ownsRow base e sz V n xs) (hT:145≠e):∀k,V.ownBlock=some k→k≠g:=by
 cases s with
 | ok q=>exact Row.ne_own h ho hT
 | error e=>obtain⟨q,h⟩:=h;exact Row.ne_own h ho hT
def FS (w0:World) (g:Nat) (B:Value) (q E c p:Nat) (W:World):Prop:=w0.grownBy W (some g)∧(Row W g 145 (ze9 B q E 0 0 false)∨Row W g 145 (ze9 B q E c p false))
theorem FS.drew {w0 W:World} {g q E c p:Nat} {B:Value} (h:FS w0 g B q E c p W):FS w0 g B q E c p W.drew:=⟨z9a h.1 1,h.2⟩
theorem FS.later {w0 W W':World} {g q E c p:Nat} {B:Value} (h:FS w0 g B q E c p W) (hb:Below W.heap.size W W'):FS w0 g B q E c p W':=⟨vg h.1 hb,h.2.imp (fun h=>h.later hb) (fun h=>h.later hb)⟩
theorem FS.next {w0 W:World} {g q E c p:Nat} {B:Value} (h:FS w0 g B q E c p W):W.cell? ⟨g,1,none⟩=some (.int .i64 q):=by
 rcases h.2 with h | h
 · exact h.cell 1 rfl
 · exact h.cell 1 rfl
theorem FS.one {w0 W:World} {g q E c p:Nat} {B:Value} (h:FS w0 g B q E c p W):w0.grownBy W (some g):=h.1
theorem OwnV.slice {w:World} {base:Nat} {V:Value} {v:Vec} (h:OwnV w base V v):∃a c,V=.slice a v.length c:=by
 obtain⟨ss,ho,-⟩:=h;exact jh ho
theorem OwnV.ne {w:World} {base g:Nat} {B V:Value} {E:Nat} {s:Except (Nat×Nat) Nat} {v:Vec} (hV:OwnV w base V v) (h:CurM w g B E s):some g≠V.ownBlock:=by
 obtain⟨ss,ho,-⟩:=hV;exact fun e=>CurM.ne_own h ho (by decide) g e.symm rfl
theorem OwnV.row {w:World} {base r:Nat} {V:Value} {v:Vec} {T:TypeId} {C:List Value} (hV:OwnV w base V v) (h:Row w r T C) (hT:T≠137):some r≠V.ownBlock:=by
 obtain⟨ss,ho,-⟩:=hV;exact fun e=>h.ne_own ho hT r e.symm rfl
theorem CurM.notT {w:World} {g:Nat} {B:Value} {E:Nat} {s:Except (Nat×Nat) Nat} (h:CurM w g B E s):NotT w g:=by
 cases s with
 | ok q=>exact Row.notT h (by unfold jw;decide)
 | error e=>obtain⟨q,h⟩:=h;exact h.notT (by unfold jw;decide)
def KnoS (w:World) (K:Value) (k:Kno):Prop:=(∃base vs l ix,SegM w base K vs l ix∧zo l∧k=qj vs l ix)∨∃base,OwnK w base 0 K k
theorem KnoS.steady {w w':World} {K:Value} {k:Kno} (h:KnoS w K k) (hs:Steady 0 jw w w'):KnoS w' K k:=by
 rcases h with ⟨b,vs,l,ix,h1,h2,h3⟩ | ⟨b,h⟩
 · exact .inl ⟨b,vs,l,ix,h1.steady hs,h2,h3⟩
 · exact .inr ⟨b,h.steady hs (.inl rfl) (.inr (.inl rfl)) (.inr (.inr rfl))⟩
theorem KnoS.later {w w':World} {K:Value} {k:Kno} (h:KnoS w K k) (hb:Below w.heap.size w w'):KnoS w' K k:=h.steady (.of_below hb)
theorem KnoS.frags {w:World} {K:Value} {k:Kno} (h:KnoS w K k):∃a c,K=.slice a k.length c∧Frags w a k.length c k:=by
 rcases h with ⟨b,vs,l,ix,h1,h2,rfl⟩ | ⟨b,h⟩
 case' inr=>exact h.frags
 have e:(qj vs l ix).length=vs.length:=by rw[zgr];simp
 rw[e];exact h1.frags h2
end
section
def zdi (s:PS):Nat:=match s.tag with
 | 0=>0
 | 1=>(yj s.v).length
 | 2=>(yj s.v).length+1
 | 3=>(yj s.v).length+2
 | 4=>(yj s.v).length+3+2*s.h.length
 | 5=>(yj s.v).length+4+2*s.h.length
 | _=>(yj s.v).length
theorem zyt (v:Vec) (r m:Nat) (h:List Iv):(yj (v++[(r,m,h)])).length=(yj v).length+3+2*h.length:=by
 simp only[yj,List.length_cons,List.flatMap_append,List.length_append,List.flatMap_singleton,ko,zle];omega
theorem zyu (s:PS) (k:Nat) (h:List Iv):zdi (zah s k h)≤(yj s.v).length+3+2*h.length:=by
 unfold zah;split
 · exact Nat.le_refl _
 · split
   · simp only[zdi];rw[zyt];exact Nat.le_refl _
   · simp only[zdi];rw[zyt];exact Nat.le_refl _
theorem zyv {le lh:Int} {s s':PS} {x rest:Nat} (ht:s.tag<6) (h:jm le lh s x rest=.ok s'):zdi s'≤zdi s+1:=by
 obtain⟨tag,v,rep,mx,hh,ents,hls,lo⟩:=s;simp only at ht;rcases(by omega:tag=0∨tag=1∨tag=2∨tag=3∨tag=4∨tag=5) with rfl | rfl | rfl | rfl | rfl | rfl <;> simp only[jm] at h
 · split at h
   · cases h
   · split at h
     · cases h
     · cases h;exact Nat.le_refl _
 · cases hr:zbu v x with
   | none=>rw[hr] at h;cases h
   | some r=>rw[hr] at h;cases h;exact Nat.le_refl _
 · cases h;exact Nat.le_refl _
 · split at h
   · cases h
   · cases h;exact zyu _ _ _
 · cases hr:loP (qr hh) 1 x with
   | none=>rw[hr] at h;cases h
   | some r=>rw[hr] at h;cases h;simp only[zdi];omega
 · split at h
   · cases h;refine Nat.le_trans (zyu _ _ _) ?_;simp only[zdi,List.length_append,List.length_cons,List.length_nil];omega
   · cases h
theorem zyw {s:PS} (h:s.tag=6):zdi s=(yj s.v).length:=by unfold zdi;simp only[h]
structure RdJ (s:WS) (p:Nat):Prop where
 fit:WFit s p
 inv:WInv s
 tch:zix s
 tag:s.tag<4
 num:∀v∈s.vs,(yj v).length≤p
 cost:zdi s.inner≤p
theorem RdJ.start:RdJ ws0 0:=⟨yap,yab,yaq,by decide,fun v h=>(by cases h),Nat.zero_le _⟩
theorem RdJ.mono {s:WS} {p q:Nat} (h:RdJ s p) (hp:p≤q):RdJ s q:=⟨h.fit.mono hp,h.inv,h.tch,h.tag,fun v hv=>Nat.le_trans (h.num v hv) hp,Nat.le_trans h.cost hp⟩
theorem zyx {E:Nat} {L:zc} {s s':WS} {x p q:Nat} (hI:RdJ s p) (hpq:p<q) (h:jd E L s x p q=.ok s'):(∀v∈s'.vs,(yj v).length≤q)∧zdi s'.inner≤q:=by
 have hm:=hI.mono (Nat.le_of_lt hpq)
 have fin:∀t:WS,t.vs=s.vs→t.inner=s.inner→∀t',zbn E t q=.ok t'→(∀v∈t'.vs,(yj v).length≤q)∧zdi t'.inner≤q:=fun t h1 h2 t' h=>by
  unfold zbn at h;split at h
  · cases h
  · split at h
    · cases h
    · injection h with h;subst h;exact⟨by show ∀v∈t.vs,_;rw[h1];exact hm.num,by show zdi t.inner≤q;rw[h2];exact hm.cost⟩
 have z0:zdi ps0≤q:=Nat.zero_le _;by_cases h1:s.tag=1
 · obtain⟨i1,-⟩:=hI.inv.inner h1;unfold jd at h;simp only[h1] at h;split at h
   · cases h
   · rename_i i hi;have hi':=zyv i1 hi;have hc:=hI.cost;by_cases h6:i.tag=6
     · rw[if_pos h6] at h;rw[zyw h6] at hi'
       have hvv:∀v∈s.vs++[i.v],(yj v).length≤q:=fun v hv=>by
        rcases List.mem_append.1 hv with h | h
        · exact hm.num v h
        · rw[List.mem_singleton] at h;subst h;omega
       split at h
       · cases h
       · split at h
         · injection h with h;subst h;exact⟨hvv,z0⟩
         · injection h with h;subst h;exact⟨hvv,z0⟩
     · rw[if_neg h6] at h;injection h with h;subst h;exact⟨hm.num,by show zdi i≤q;omega⟩
 · unfold jd at h;split at h
   · split at h
     · cases h
     · split at h
       · injection h with h;subst h;exact⟨hm.num,hm.cost⟩
       · injection h with h;subst h;exact⟨hm.num,z0⟩
   · rename_i e;exact absurd e h1
   · split at h
     · cases h
     · split at h
       · exact fin _ rfl rfl _ h
       · injection h with h;subst h;exact⟨hm.num,hm.cost⟩
   · split at h
     · split at h
       · cases h
       · injection h with h;subst h;exact⟨hm.num,hm.cost⟩
     · split at h
       · injection h with h;subst h;exact⟨hm.num,hm.cost⟩
       · cases h
     · split at h
       · cases h
       · split at h
         · cases h
         · split at h
           · exact fin _ (by rfl) (by rfl) _ h
           · injection h with h;subst h;exact⟨hm.num,hm.cost⟩
   · injection h with h;subst h;exact⟨hm.num,hm.cost⟩
theorem RdJ.next {E:Nat} {L:zc} {s s':WS} {x p q:Nat} (h:RdJ s p) (hx:x<18446744073709551616) (hpq:p<q) (hs:jd E L s x p q=.ok s') (h4:s'.tag<4):RdJ s' q:=
 ⟨zlt h.fit h.inv h.tag hx hpq hs,zgs h.inv h.tag hs,yas h.tch h.inv h.tag hs,h4,(zyx h hpq hs).1,(zyx h hpq hs).2⟩
theorem RdJ.inner {L:zc} {s:WS} {x p rest:Nat} (h:RdJ s p) (h1:s.tag=1) {i:PS} (hi:jm L.2.2.1 L.2.2.2.1 s.inner x rest=.ok i) (h6:i.tag=6):(yj i.v).length≤p+1:=by
 have:=zyv (h.inv.inner h1).1 hi;rw[zyw h6] at this;have:=h.cost;omega
def vsK (c:Kno):List Vec:=c.map (·.2)
theorem zhn (c:Kno):(vsK c).length=c.length:=by simp[vsK]
theorem zol {c:Kno} {d:Nat} (hd:d<c.length):(vsK c)[d]'(by rw[zhn];exact hd)=(za c d).2:=by simp[vsK,qm hd]
theorem yax {c:Kno} (hc:CanK c) {d:Nat} (hd:d<c.length):za4 ((vsK c).take d) (za c d).2=false:=by
 unfold za4
 cases d with
 | zero=>simp
 | succ n=>
  rw[zlu (by rw[zhn];omega),zol (show n<c.length by omega)];have h1:=List.pairwise_iff_getElem.1 hc.asc n (n+1) (by omega) hd (by omega);unfold zae at h1;rw[←qm (by omega),←qm hd] at h1;simp only[h1]
  rfl
theorem zsk {T:ye} {E:Nat} {le lh:Int} (hT:Fwd T) {c:Kno} (hc:CanK c) (hl:LtK c):∀d,d≤c.length→∀{p r:Nat},jq T p (qv c d) r→r≤E→
 ∃r0,T p=.ok (c.length,r0)∧r0+d≤r∧∀k,(∀i,i<d→okV le lh (za c i).2)→kg T E le lh (d+k) [] r0=kg T E le lh k ((vsK c).take d) r
 | 0,_,p,r,hr,hE=>by
   obtain⟨r0,h1,rfl⟩:=hr
   exact⟨r0,h1,by omega,fun k _=>by rw[List.take_zero,Nat.zero_add]⟩
 | d+1,hd,p,r,hr,hE=>by
   rw[qv] at hr;obtain⟨s,h1,h2⟩:=zbr.1 hr;have h3:=ze8 hT h2;have hm:=yh (show d<c.length from hd);obtain⟨hv,hne⟩:=hc.vec _ hm
   have h4:1≤(zan (za c d).2).length:=by
    obtain⟨R,e⟩:=zsj (za c d).2 0 (za c d).2.length (Nat.zero_le _);unfold zan;rw[e];simp[jn]
   obtain⟨r0,h5,h6,h7⟩:=zsk hT hc hl d (by omega) h1 (show s≤E by omega);refine⟨r0,h5,by omega,fun k hk=>?_⟩;rw[show d+1+k=d+(k+1) by omega,h7 (k+1) (fun i hi=>hk i (by omega)),kg,(zyq hT hv (hl _ hm).vec hne h2 hE).1 (hk d (by omega)),ja,yax hc hd,if_neg (by simp),List.take_succ_eq_append_getElem (by rw[zhn];exact hd),zol hd]
theorem zyy (c:Kno) (i:Nat):∀d,i≤d→∃R,qv c d=qv c i++R
 | 0,h=>⟨[],by rw[show i=0 by omega,List.append_nil]⟩
 | d+1,h=>by
   rcases Nat.lt_or_ge d i with h1 | h1
   · exact⟨[],by rw[show i=d+1 by omega,List.append_nil]⟩
   · obtain⟨R,e⟩:=zyy c i d h1;exact⟨R++zan (za c d).2,by rw[qv,e,List.append_assoc]⟩
theorem zb0 (L:List Seg):(yi L).length=L.length:=by simp[yi]
theorem zj7 (L:List Seg):(qn L).length=L.length:=by simp[qn]
theorem yay {c:Kno} (hc:CanK c) {d:Nat} (hd:d<(zk c).length):¬(zc1 ((yi (zk c)).take d) (zb (yi (zk c)) d).1=true∧((qn (zk c)).take d).getLast?=some (nth (qn (zk c)) d)):=by
 rintro⟨h1,h2⟩
 cases d with
 | zero=>simp at h2
 | succ n=>
  have hp:=List.pairwise_iff_getElem.1 (zxq hc) n (n+1) (by omega) hd (by omega);unfold zc1 qr at h1;rw[zlu (by rw[zb0];omega)] at h1;rw[zlu (by rw[zj7];omega)] at h2;have e1:(yi (zk c))[n]'(by rw[zb0];omega)=(zk c)[n].1:=by simp[yi]
  have e2:zb (yi (zk c)) (n+1)=(zk c)[n+1].1:=by rw[jg (by rw[zb0];exact hd)];simp[yi]
  have e3:(qn (zk c))[n]'(by rw[zj7];omega)=(zk c)[n].2:=by simp[qn]
  have e4:nth (qn (zk c)) (n+1)=(zk c)[n+1].2:=by simp[nth,qn,hd]
  rw[e1,e2] at h1;rw[e3,e4] at h2;simp only[Option.map_some,decide_eq_true_eq] at h1;have:=hp.2 (Option.some.inj h2);omega
theorem zyz {T:ye} {c:Kno} (hc:CanK c) (hl:LtK c):∀d,d≤(zk c).length→∀{p r:Nat},jq T p (vt (yi (zk c)) (qn (zk c)) d) r→
 ∃r0,T p=.ok ((zk c).length,r0)∧∀k,vv T c.length (d+k) [] [] r0=vv T c.length k ((yi (zk c)).take d) ((qn (zk c)).take d) r
 | 0,_,p,r,hr=>by
   obtain⟨r0,h1,rfl⟩:=hr;rw[zb0] at h1
   exact⟨r0,h1,fun k=>by rw[List.take_zero,List.take_zero,Nat.zero_add]⟩
 | d+1,hd,p,r,hr=>by
   rw[vt] at hr;obtain⟨s,h1,h2⟩:=zbr.1 hr;obtain⟨t,h3,h4⟩:=zbr (a:=[vz (yi (zk c)) 0 d,(zb (yi (zk c)) d).2 - (zb (yi (zk c)) d).1]) (b:=[nth (qn (zk c)) d]).1 h2;obtain⟨r',h5,rfl⟩:=h4;obtain⟨r0,h6,h7⟩:=zyz hc hl d (by omega) h1
   have hlt:zo (yi (zk c)):=fun s hs=>by
    obtain⟨p,hp,rfl⟩:=List.mem_map.1 hs;obtain⟨-,-,h3⟩:=zep c c.length (Nat.le_refl _);exact(hl _ (yh (h3 p hp).1)).items _ (h3 p hp).2
   obtain⟨w,h8⟩:=zyl (l:=yi (zk c)) (a:=0) (zr4 hc) hlt (by rw[zb0];exact hd) h3;refine⟨r0,h6,fun k=>?_⟩;rw[show d+1+k=d+(k+1) by omega,h7 (k+1),vv,h8,ja];unfold zdw;have hx:nth (qn (zk c)) d<c.length:=zod (k:=c) hd;rw[ziy h5,ja,if_neg (by omega),if_neg (yay hc hd),List.take_succ_eq_append_getElem (by rw[zb0];exact hd),List.take_succ_eq_append_getElem (by rw[zj7];exact hd)]
   have e:nth (qn (zk c)) d=(qn (zk c))[d]'(by rw[zj7];exact hd):=by
    unfold nth;rw[List.getD_eq_getElem?_getD,List.getElem?_eq_getElem (by rw[zj7];exact hd)]
    rfl
   rw[jg (by rw[zb0];exact hd),e]
structure okK (L:zc) (c:Kno):Prop where
 vecs:okC c.length L.2.1
 vec:∀i,i<c.length→okV L.2.2.1 L.2.2.2.1 (za c i).2
 segs:okC (zk c).length L.2.2.2.2
theorem yaz {c:Kno} (hc:CanK c):qj (vsK c) (yi (zk c)) (qn (zk c))=c:=by
 have h:=z9x hc;unfold qj qn;rw[List.map_map];exact h
theorem ya0 {c:Kno} (hc:CanK c) (E z:Nat):zbq E c z=if z<E then .error (11,z) else .ok (c,z):=by
 unfold zbq;rw[if_neg (by rintro⟨f,hf,h⟩;exact(hc.items f hf).2 h)]
theorem zy0 {T:ye} (hT:Fwd T) {E p z:Nat} {L:zc} {c:Kno} (hc:CanK c) (hl:LtK c) (hr:jq T p (zn c) z) (hz:z≤E):
 (okK L c→jc T E L p=if z<E then .error (11,z) else .ok (c,z))∧(¬okK L c→∃w,jc T E L p=.error (7,w)):=by
 have hr':=hr;unfold zn at hr';obtain⟨s,h1,h2⟩:=zbr.1 hr';have h2':jq T s (vt (yi (zk c)) (qn (zk c)) (zk c).length) z:=h2;have h3:=ze8 hT h2;rw[zgq] at h3;obtain⟨r0,a1,a2,a3⟩:=zsk (E:=E) (le:=L.2.2.1) (lh:=L.2.2.2.1) hT hc hl c.length (Nat.le_refl _) h1 (by omega);obtain⟨q0,b1,b2⟩:=zyz hc hl (zk c).length (Nat.le_refl _) h2';have hb:=b2 0;rw[Nat.add_zero,vv,List.take_of_length_le (by rw[zb0];exact Nat.le_refl _),List.take_of_length_le (by rw[zj7];exact Nat.le_refl _)] at hb
 have hq:q0+(zk c).length≤E:=by
  cases hS:(zk c).length with
  | zero=>rw[hS] at h2';obtain⟨r,e1,rfl⟩:=h2';rw[b1] at e1;injection e1 with e;injection e with _ e;omega
  | succ n=>
   obtain⟨R,e⟩:∃R,vt (yi (zk c)) (qn (zk c)) (zk c).length=[(yi (zk c)).length]++R:=by
    have:∀d,∃R,vt (yi (zk c)) (qn (zk c)) d=[(yi (zk c)).length]++R:=by
     intro d
     induction d with
     | zero=>exact⟨[],rfl⟩
     | succ d ih=>obtain⟨R,e⟩:=ih;exact⟨_,by rw[vt,e,List.append_assoc]⟩
    exact this _
   have hln:=zgq (yi (zk c)) (qn (zk c)) (zk c).length;rw[e] at h2' hln;obtain⟨t,⟨t',e1,rfl⟩,e2⟩:=zbr.1 h2';have e3:=ze8 hT e2;rw[b1] at e1;injection e1 with e1;injection e1 with _ e1;simp only[List.length_append,List.length_cons,List.length_nil] at hln;omega
 by_cases k1:okC c.length L.2.1
 · by_cases k2:∀i,i<c.length→okV L.2.2.1 L.2.2.2.1 (za c i).2
   · have hv:=a3 0 k2;rw[Nat.add_zero,kg,List.take_of_length_le (by rw[zhn];exact Nat.le_refl _)] at hv;by_cases k3:okC (zk c).length L.2.2.2.2
     · refine⟨fun _=>?_,fun h=>absurd ⟨k1,k2,k3⟩ h⟩;unfold jc zc2;rw[ziz a1 k1 (by omega),ja,hv,ja,ziz b1 k3 hq,ja,zhn,hb,ja];simp only;rw[yaz hc,ya0 hc]
     · refine⟨fun h=>absurd h.segs k3,fun _=>⟨s,?_⟩⟩;unfold jc zc2;rw[ziz a1 k1 (by omega),ja,hv,ja,zok b1 k3,zea]
   · refine⟨fun h=>absurd h.vec k2,fun _=>?_⟩;have:DecidablePred fun i=>okV L.2.2.1 L.2.2.2.1 (za c i).2:=fun i=>Classical.propDecidable _
     obtain⟨i,hi,hbad,hlt⟩:=zyp (P:=fun i=>okV L.2.2.1 L.2.2.2.1 (za c i).2) k2;obtain⟨R,e⟩:=zyy c (i+1) c.length hi;have h1':=h1;rw[e] at h1';obtain⟨t,g1,g2⟩:=zbr.1 h1';have g3:=ze8 hT g2;rw[qv] at g1;obtain⟨u,g4,g5⟩:=zbr.1 g1;have g6:=ze8 hT g5;obtain⟨r0',a1',-,a3'⟩:=zsk (E:=E) (le:=L.2.2.1) (lh:=L.2.2.2.1) hT hc hl i (by omega) g4 (by omega);obtain rfl:r0'=r0:=by rw[a1] at a1';injection a1' with h;injection h with _ h;exact h.symm
     have hm:=yh hi;obtain⟨w,hw⟩:=(zyq (E:=E) hT (hc.vec _ hm).1 (hl _ hm).vec (hc.vec _ hm).2 g5 (by omega)).2 hbad;have:=a3' (c.length - i) hlt;rw[show i+(c.length - i)=c.length by omega,show c.length - i=(c.length - i - 1)+1 by omega,kg,hw,zea] at this
     exact⟨w,by
      unfold jc;rw[ziz a1 k1 (by omega),ja,this,zea]⟩
 · refine⟨fun h=>absurd h.vecs k1,fun _=>⟨p,?_⟩⟩;unfold jc;rw[zok a1 k1,zea]
