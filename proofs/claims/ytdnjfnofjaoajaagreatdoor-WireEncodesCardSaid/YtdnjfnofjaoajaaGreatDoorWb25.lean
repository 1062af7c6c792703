/- Walks and laws, joined: Wb25. -/
import Derived.Test.YtdnjfnofjaoajaaGreatDoorWb24
set_option linter.unusedVariables false
set_option maxHeartbeats 16000000
namespace Go.Proofs.YtdnjfnofjaoajaaGreatDoor
open Lib (hid)
section
def Fwd (T:yo):Prop:=∀p x q,T p=.ok (x,q)→p<q
def okC (n:Nat) (lim:Int):Prop:=(n:Int)≤lim∨n=0
instance (n:Nat) (lim:Int):Decidable (okC n lim):=by unfold okC;infer_instance
theorem zf1 {T:yo} {p x q:Nat} (h:T p=.ok (x,q)):nmP T p=.ok (x,q):=by unfold nmP;rw[h]
theorem z5x {x rest:Nat} {lim:Int} (h1:okC x lim) (h2:x≤rest):yz x lim rest=0:=by
 unfold yz;rw[if_neg (by rintro⟨h3,h4⟩;rcases h1 with h | h <;> omega),if_neg (by omega)]
theorem z5y {x rest:Nat} {lim:Int} (h1:¬okC x lim):yz x lim rest=7:=by
 unfold yz okC at*;rw[if_pos ⟨by omega,fun h=>h1 (.inr h)⟩]
theorem zf2 {T:yo} {E p x q:Nat} {lim:Int} (h:T p=.ok (x,q)) (h1:okC x lim) (h2:q+x≤E):kg T E lim p=.ok (x,q):=by
 unfold kg;rw[zf1 h,jq,z5x h1 (by omega),if_pos rfl]
theorem zll {T:yo} {E p x q:Nat} {lim:Int} (h:T p=.ok (x,q)) (h1:¬okC x lim):kg T E lim p=.error (7,p):=by
 unfold kg;rw[zf1 h,jq,z5y h1,if_neg (by omega)]
theorem ziv {α:Type} {l:List α} {d:Nat} (hd:d<l.length):(l.take (d+1)).getLast?=some l[d]:=by
 rw[List.take_succ_eq_append_getElem hd];exact List.getLast?_concat
theorem z5z {T:yo} {a b p q:Nat} (h:jr T p [a,b] q):∃r,T p=.ok (a,r)∧T r=.ok (b,q):=by
 obtain⟨r,h1,s,h2,rfl⟩:=h;exact⟨r,h1,h2⟩
theorem z52 {l:List Iv} {a d:Nat} (hD:zb4 l a) (hlt:zq l) (hd:d<l.length):loP (jv (l.take d)) a (jd l a d)=some (zb l d).1:=by
 unfold jv jd
 cases d with
 | zero=>rw[if_pos rfl];simp[loP]
 | succ n=>
  have h1:=(hD (n+1) hd).2 (by omega);have h2:=hlt _ (zaa hd);rw[if_neg (by omega),ziv (by omega)];rw[show n+1 - 1=n by omega,qf (show n<l.length by omega)] at*;simp only[Option.map_some,loP];rw[if_pos (by omega)];congr 1;omega
theorem zu9 {T:yo} {l:List Iv} {a d p q:Nat} (hD:zb4 l a) (hlt:zq l) (hd:d<l.length) (h:jr T p [jd l a d,(zb l d).2 - (zb l d).1] q):∃w,ivP T (jv (l.take d)) a p=.ok ((zb l d,w),q):=by
 obtain⟨r,h1,h2⟩:=z5z h;refine⟨r,?_⟩;have g1:=(hD d hd).1;have g2:=hlt _ (zaa hd);unfold ivP;rw[zf1 h1,jq,z52 hD hlt hd];simp only[hiP];rw[zf1 h2,jq,show (zb l d).1+((zb l d).2 - (zb l d).1)=(zb l d).2 by omega,if_pos g2.2]
theorem zva {T:yo} {mx:Nat} {h:List Iv} (hD:zb4 h 1) (hlt:zq h) (hm:∀s∈h,s.2<mx):∀d,d≤h.length→∀{p r:Nat},jr T p (vk h 1 d) r→∀k,zac T mx (d+k) [] p=zac T mx k (h.take d) r
 | 0,_,p,r,hr,k=>by cases hr;rw[List.take_zero,Nat.zero_add]
 | d+1,hd,p,r,hr,k=>by
   rw[vk] at hr;obtain⟨s,h1,h2⟩:=zae.1 hr;obtain⟨w,h3⟩:=zu9 hD hlt hd h2;rw[show d+1+k=d+(k+1) by omega,zva hD hlt hm d (by omega) h1 (k+1),zac,h3,jq];unfold zdb;rw[if_neg (by have:=hm _ (zaa (show d<h.length from hd));simp only;omega),List.take_succ_eq_append_getElem hd,qf hd]
theorem zvb {T:yo} {E:Nat} {lim:Int} (hT:Fwd T) {v:Vec} (hv:CanV v) (hl:LtV v) (hm:∀e∈v,∀s∈e.2.2,s.2<e.2.1) {d p q:Nat} (hd:d<v.length) (h:jr T p (vv v d) q) (hq:q≤E):
 (okC (zc v d).2.2.length lim→ze3 T E lim (v.take d) p=.ok (zc v d,q))∧(¬okC (zc v d).2.2.length lim→∃w,ze3 T E lim (v.take d) p=.error (7,w)):=by
 have hmem:=jb hd;obtain⟨r3,⟨r1,t1,r2,t2,r2',t3,rfl⟩,h4⟩:=zae.1 h
 have hrep:zay (v.take d) (zb5 v d)=some (zc v d).1:=by
  unfold zay zb5
  cases d with
  | zero=>rw[if_pos rfl];simp
  | succ n=>
   have h1:=List.pairwise_iff_getElem.1 hv.asc n (n+1) (by omega) hd (by omega);have h2:=(hl _ hmem).rep;unfold kd at h1;rw[if_neg (by omega),ziv (by omega)];rw[qn hd] at h2 ⊢;rw[show n+1 - 1=n by omega,qn (show n<v.length by omega)];simp only;rw[if_pos (by omega)];congr 1;omega
 have hcan:=hv.ent _ hmem;have hlen:=zdo hT h4;have hdl:(kf (zc v d).2.2 1).length=2*(zc v d).2.2.length:=ze2 _ _ _;have hh:=zva (T:=T) (mx:=(zc v d).2.1) (zn9 hcan.good) (hl _ hmem).holes (hm _ hmem) (zc v d).2.2.length (Nat.le_refl _) h4 0;rw[List.take_length,Nat.add_zero,zac] at hh;unfold ze3;rw[zf1 t1,jq,hrep];simp only[zgv];rw[zf1 t2,jq];unfold zgu;constructor
 · intro hc;rw[zf2 t3 hc (by omega),jq,hh,jq]
 · intro hc;exact⟨r2,by rw[zll t3 hc,zcf]⟩
theorem zvc {v:Vec} (hv:CanV v):∀e∈v,∀s∈e.2.2,s.2<e.2.1:=fun e he s hs=>by
 have h:=hv.ent e he;have h1:=h.below s hs;rcases Nat.lt_or_ge s.2 e.2.1 with h2 | h2
 · exact h2
 · have h3:=h.top;have h4:mem e.2.2 e.2.1=true:=mem_iff.2 ⟨s,hs,by have:=h.good.ok s hs;omega,by omega⟩;rw[h3] at h4;cases h4
theorem zoq {T:yo} {E:Nat} {lim:Int} (hT:Fwd T) {v:Vec} (hv:CanV v) (hl:LtV v):∀d,d≤v.length→∀{p r:Nat},jr T p (ql v d) r→r≤E→
 ∃r0,T p=.ok (v.length,r0)∧r0+d≤r∧∀k,(∀i,i<d→okC (zc v i).2.2.length lim)→vy T E lim (d+k) [] r0=vy T E lim k (v.take d) r
 | 0,_,p,r,hr,hE=>by
   obtain⟨r0,h1,rfl⟩:=hr
   exact⟨r0,h1,by omega,fun k _=>by rw[List.take_zero,Nat.zero_add]⟩
 | d+1,hd,p,r,hr,hE=>by
   rw[ql] at hr;obtain⟨s,h1,h2⟩:=zae.1 hr;have h3:=zdo hT h2;have h4:3≤(vv v d).length:=by unfold vv;simp
   obtain⟨r0,h5,h6,h7⟩:=zoq hT hv hl d (by omega) h1 (show s≤E by omega);refine⟨r0,h5,by omega,fun k hk=>?_⟩;rw[show d+1+k=d+(k+1) by omega,h7 (k+1) (fun i hi=>hk i (by omega)),vy,(zvb hT hv hl (zvc hv) hd h2 hE).1 (hk d (by omega)),jq,List.take_succ_eq_append_getElem hd,qn hd]
theorem zvd {P:Nat→Prop} [DecidablePred P] {n:Nat} (h:¬∀i,i<n→P i):∃i,i<n∧¬P i∧∀j,j<i→P j:=by
 induction n with
 | zero=>exact absurd (fun i hi=>by omega) h
 | succ n ih=>
  by_cases h1:∀i,i<n→P i
  · refine⟨n,by omega,fun h2=>h fun i hi=>?_,h1⟩;rcases Nat.lt_or_ge i n with h3 | h3
    · exact h1 i h3
    · rwa [show i=n by omega]
  · obtain⟨i,hi,h2,h3⟩:=ih h1;exact⟨i,by omega,h2,h3⟩
def okV (le lh:Int) (v:Vec):Prop:=okC v.length le∧∀i,i<v.length→okC (zc v i).2.2.length lh
theorem zor (v:Vec) (i:Nat):∀d,i≤d→∃R,ql v d=ql v i++R
 | 0,h=>⟨[],by rw[show i=0 by omega,List.append_nil]⟩
 | d+1,h=>by
   rcases Nat.lt_or_ge d i with h1 | h1
   · exact⟨[],by rw[show i=d+1 by omega,List.append_nil]⟩
   · obtain⟨R,e⟩:=zor v i d h1;exact⟨R++vv v d,by rw[ql,e,List.append_assoc]⟩
theorem zve {T:yo} {E:Nat} {le lh:Int} (hT:Fwd T) {v:Vec} (hv:CanV v) (hl:LtV v) (hne:v≠[]) {p r:Nat} (hr:jr T p (vw v) r) (hE:r≤E):
 (okV le lh v→zcg T E le lh p=.ok (v,r))∧(¬okV le lh v→∃w,zcg T E le lh p=.error (7,w)):=by
 obtain⟨r0,h1,h2,h3⟩:=zoq (E:=E) (lim:=lh) hT hv hl v.length (Nat.le_refl _) hr hE;have h0:v.length≠0:=fun h=>hne (List.length_eq_zero_iff.1 h)
 constructor
 · rintro⟨k1,k2⟩;have:=h3 0 k2;rw[Nat.add_zero,List.take_length,vy] at this;unfold zcg;rw[zf2 h1 k1 (by omega),jq,if_neg h0,this]
 · intro hn;by_cases k1:okC v.length le
   · obtain⟨i,hi,hb,hlt⟩:=zvd (P:=fun i=>okC (zc v i).2.2.length lh) (n:=v.length) (fun h=>hn ⟨k1,h⟩);obtain⟨R,e⟩:=zor v (i+1) v.length hi;have hr':=hr;unfold vw at hr';rw[e] at hr';obtain⟨s,g1,g2⟩:=zae.1 hr';have g3:=zdo hT g2;rw[ql] at g1;obtain⟨t,g4,g5⟩:=zae.1 g1;have g6:=zdo hT g5;obtain⟨r0',h1',-,h3'⟩:=zoq (E:=E) (lim:=lh) hT hv hl i (by omega) g4 (by omega);obtain rfl:r0'=r0:=by rw[h1] at h1';injection h1' with h;injection h with _ h;exact h.symm
     obtain⟨w,hw⟩:=(zvb (E:=E) hT hv hl (zvc hv) hi g5 (by omega)).2 hb;have:=h3' (v.length - i) hlt;rw[show i+(v.length - i)=v.length by omega,show v.length - i=(v.length - i - 1)+1 by omega,vy,hw,zcf] at this
     exact⟨w,by
      unfold zcg;rw[zf2 h1 k1 (by omega),jq,if_neg h0,this]⟩
   · exact⟨p,by
      unfold zcg;rw[zll h1 k1,zcf]⟩
end
section
def T64 (T:yo):Prop:=∀p x q,T p=.ok (x,q)→x<18446744073709551616
theorem kh {α β:Type} {a:RR α} {f:α→Nat→RR β} {y:β×Nat} (h:thn a f=.ok y):∃x q,a=.ok (x,q)∧f x q=.ok y:=by
 cases a with
 | error e=>cases h
 | ok z=>exact⟨z.1,z.2,rfl,h⟩
theorem ze9 {T:yo} {p x q:Nat} (h:nmP T p=.ok (x,q)):T p=.ok (x,q):=by
 unfold nmP at h
 cases hT:T p with
 | error c=>rw[hT] at h;cases h
 | ok y=>rw[hT] at h;cases h;rfl
theorem ziw {T:yo} {E p x q:Nat} {lim:Int} (h:kg T E lim p=.ok (x,q)):T p=.ok (x,q)∧okC x lim:=by
 unfold kg at h;obtain⟨y,r,h1,h2⟩:=kh h;split at h2
 · rename_i h3;cases h2;refine⟨ze9 h1,?_⟩;unfold yz at h3;unfold okC;split at h3
   · cases h3
   · rename_i h4;rcases Nat.eq_zero_or_pos x with h5 | h5
     · exact .inr h5
     · exact .inl (by
        by_cases h6:lim<(x:Int)
        · exact absurd ⟨h6,by omega⟩ h4
        · omega)
 · cases h2
theorem zbv {l:List Iv} {t:List Iv} {i:Nat} (h:i<l.length):zb (l++t) i=zb l i:=by
 rw[qf h,qf (by rw[List.length_append];omega),List.getElem_append_left h]
theorem zix (l:List Iv) (s:Iv):zb (l++[s]) l.length=s:=by
 rw[qf (by simp)];simp
theorem zvf (l t:List Iv) (a:Nat):∀d,d≤l.length→vk (l++t) a d=vk l a d
 | 0,_=>rfl
 | d+1,h=>by
   rw[vk,vk,zvf l t a d (by omega),zbv h]
   have:jd (l++t) a d=jd l a d:=by
    unfold jd;rw[zbv (by omega),zbv (i:=d) h,zbv (by omega)]
   rw[this]
theorem zvg (l:List Iv):jv l=if l.length=0 then none else some (zb l (l.length - 1)).2:=by
 unfold jv;rw[List.getLast?_eq_getElem?]
 cases h:l.length with
 | zero=>rw[List.length_eq_zero_iff.1 h];rfl
 | succ n=>rw[if_neg (by omega),show n+1 - 1=n by omega,List.getElem?_eq_getElem (by omega),qf (by omega)];rfl
theorem zvh {T:yo} {l:List Iv} {a p q w:Nat} {s:Iv} (hT:T64 T) (hD:zb4 l a) (hl:zq l) (h:ivP T (jv l) a p=.ok ((s,w),q)):
 zb4 (l++[s]) a∧zq (l++[s])∧jr T p [jd (l++[s]) a l.length,s.2 - s.1] q:=by
 unfold ivP at h;obtain⟨x,r,h1,h2⟩:=kh h;have t1:=ze9 h1;have x64:=hT _ _ _ t1
 cases hlo:loP (jv l) a x with
 | none=>rw[hlo] at h2;cases h2
 | some lo=>
  rw[hlo] at h2;simp only[hiP] at h2;obtain⟨y,r',h3,h4⟩:=kh h2;have t2:=ze9 h3;split at h4
  · rename_i hb;cases h4
    have hg:jd (l++[(lo,lo+y)]) a l.length=x∧(0<l.length→(zb l (l.length - 1)).2+1+a≤lo)∧lo<18446744073709551616:=by
     rw[zvg] at hlo;unfold jd;rcases Nat.eq_zero_or_pos l.length with h0 | h0
     · rw[if_pos h0] at hlo;cases hlo;rw[if_pos h0];have:l=[]:=List.length_eq_zero_iff.1 h0;subst this;exact⟨rfl,fun h=>by simp at h,x64⟩
     · rw[if_neg (by omega)] at hlo;simp only[loP] at hlo;split at hlo
       · cases hlo;rw[if_neg (by omega),zix,zbv (by omega)];exact⟨by simp only;omega,fun _=>by omega,by assumption⟩
       · cases hlo
    refine⟨fun i hi=>?_,fun t ht=>?_,⟨_,by rw[hg.1];exact t1,_,by rw[show (lo,lo+y).2 - (lo,lo+y).1=y by simp only;omega];exact t2,rfl⟩⟩
    · rw[List.length_append,List.length_cons,List.length_nil] at hi;rcases Nat.lt_or_ge i l.length with h5 | h5
      · rw[zbv h5];refine⟨(hD i h5).1,fun h0=>?_⟩;rw[zbv (by omega)];exact(hD i h5).2 h0
      · obtain rfl:i=l.length:=by omega
        rw[zix];refine⟨by simp only;omega,fun h0=>?_⟩;rw[zbv (by omega)];exact hg.2.1 h0
    · rcases List.mem_append.1 ht with ht | ht
      · exact hl t ht
      · simp at ht;subst ht;exact⟨hg.2.2,hb⟩
  · cases h4
theorem zvi {T:yo} {mx:Nat} (hT:T64 T):∀(n:Nat) (acc:List Iv) {p q:Nat} {h:List Iv},zac T mx n acc p=.ok (h,q)→zb4 acc 1→zq acc→(∀s∈acc,s.2<mx)→
 ∀{P0:Nat},jr T P0 (vk acc 1 acc.length) p→jr T P0 (vk h 1 h.length) q∧zb4 h 1∧zq h∧(∀s∈h,s.2<mx)∧h.length=acc.length+n
 | 0,acc,p,q,h,hh,hD,hl,hm,P0,hr=>by cases hh;exact⟨hr,hD,hl,hm,rfl⟩
 | n+1,acc,p,q,h,hh,hD,hl,hm,P0,hr=>by
   rw[zac] at hh;obtain⟨⟨s,w⟩,r,h1,h2⟩:=kh hh;obtain⟨d1,d2,d3⟩:=zvh hT hD hl h1;unfold zdb at h2;split at h2
   · cases h2
   · rename_i h3;simp only at h3 h2
     obtain⟨e1,e2,e3,e4,e5⟩:=zvi hT n (acc++[s]) h2 d1 d2 (fun t ht=>by
      rcases List.mem_append.1 ht with ht | ht
      · exact hm t ht
      · simp at ht;subst ht;omega) (P0:=P0) (by
      rw[List.length_append,List.length_cons,List.length_nil,Nat.zero_add,vk,zvf acc [s] 1 acc.length (Nat.le_refl _),zix];exact zae.2 ⟨p,hr,d3⟩)
     refine⟨e1,e2,e3,e4,?_⟩;rw[e5,List.length_append,List.length_cons,List.length_nil];omega
theorem z54 {l:List Iv} (h:zb4 l 1):Good l:=zj0 fun i hi=>⟨(h i hi).1,fun h0=>by have:=(h i hi).2 h0;omega⟩
def zdq (v:Vec):Nat→List Nat
 | 0=>[]
 | d+1=>zdq v d++vv v d
theorem zvj (v:Vec):∀d,ql v d=v.length :: zdq v d
 | 0=>rfl
 | d+1=>by rw[ql,zdq,zvj v d];rfl
theorem ziy {v t:Vec} {i:Nat} (h:i<v.length):zc (v++t) i=zc v i:=by
 rw[qn h,qn (by rw[List.length_append];omega),List.getElem_append_left h]
theorem zos (v:Vec) (e:Ent):zc (v++[e]) v.length=e:=by
 rw[qn (by simp)];simp
theorem zvk (v t:Vec):∀d,d≤v.length→zdq (v++t) d=zdq v d
 | 0,_=>rfl
 | d+1,h=>by
   rw[zdq,zdq,zvk v t d (by omega)]
   have:vv (v++t) d=vv v d:=by
    unfold vv zb5;rw[ziy (i:=d) h,ziy (i:=0) (by omega),ziy (i:=d - 1) (by omega)]
   rw[this]
theorem z56 (v:Vec):v.getLast?=if v.length=0 then none else some (zc v (v.length - 1)):=by
 rw[List.getLast?_eq_getElem?]
 cases h:v.length with
 | zero=>rw[List.length_eq_zero_iff.1 h];rfl
 | succ n=>rw[if_neg (by omega),show n+1 - 1=n by omega,List.getElem?_eq_getElem (by omega),qn (by omega)]
theorem z57 {T:yo} {E:Nat} {lim:Int} (hT:T64 T) {v:Vec} {e:Ent} {p q:Nat} (h:ze3 T E lim v p=.ok (e,q)):
 jr T p (vv (v++[e]) v.length) q∧CanE e∧LtE e∧okC e.2.2.length lim∧(0<v.length→(zc v (v.length - 1)).1<e.1):=by
 unfold ze3 at h;obtain⟨x,r,h1,h2⟩:=kh h;have t1:=ze9 h1
 cases hr:zay v x with
 | none=>rw[hr] at h2;cases h2
 | some rp=>
  rw[hr] at h2;simp only[zgv] at h2;obtain⟨mx,r2,h3,h4⟩:=kh h2;have t2:=ze9 h3;unfold zgu at h4;obtain⟨n,r3,h5,h6⟩:=kh h4;obtain⟨t3,hc⟩:=ziw h5;obtain⟨hl,r4,h7,h8⟩:=kh h6;cases h8;obtain⟨e1,e2,e3,e4,e5⟩:=zvi hT n [] h7 (fun i hi=>(by simp at hi)) (fun t ht=>(by cases ht)) (fun t ht=>(by cases ht)) (P0:=r3) rfl;have hn:hl.length=n:=by simpa using e5
  have hg:=z54 e2
  have hrep:zb5 (v++[(rp,mx,hl)]) v.length=x∧rp<18446744073709551616∧(0<v.length→(zc v (v.length - 1)).1<rp):=by
   have x64:=hT _ _ _ t1;unfold zay at hr;rw[z56] at hr;unfold zb5;rcases Nat.eq_zero_or_pos v.length with h0 | h0
   · rw[if_pos h0] at hr;cases hr;rw[if_pos h0];have:v=[]:=List.length_eq_zero_iff.1 h0;subst this;exact⟨rfl,x64,fun h=>by simp at h⟩
   · rw[if_neg (by omega)] at hr;simp only at hr;split at hr
     · cases hr;rw[if_neg (by omega),zos,ziy (by omega)];exact⟨by simp only;omega,by assumption,fun _=>by omega⟩
     · cases hr
  refine⟨?_,⟨hg,fun s hs=>Nat.le_of_lt (e4 s hs),?_⟩,⟨hrep.2.1,hT _ _ _ t2,e3⟩,by simp only[hn];exact hc,hrep.2.2⟩
  · unfold vv;rw[hrep.1,zos];refine zae.2 ⟨r3,⟨r,t1,r2,t2,r3,by simp only[hn];exact t3,rfl⟩,e1⟩
  · cases hm:mem hl mx with
    | false=>rfl
    | true=>
     obtain⟨s,hs,a1,a2⟩:=mem_iff.1 hm;have:=e4 s hs;omega
structure EInv (lim:Int) (v:Vec):Prop where
 can:CanV v
 lt:LtV v
 lim:∀i,i<v.length→okC (zc v i).2.2.length lim
theorem zvl {T:yo} {E:Nat} {lim:Int} (hT:T64 T):∀(n:Nat) (acc:Vec) {p q:Nat} {v:Vec},vy T E lim n acc p=.ok (v,q)→EInv lim acc→
 ∀{P0:Nat},jr T P0 (zdq acc acc.length) p→jr T P0 (zdq v v.length) q∧EInv lim v∧v.length=acc.length+n
 | 0,acc,p,q,v,h,hI,P0,hr=>by cases h;exact⟨hr,hI,rfl⟩
 | n+1,acc,p,q,v,h,hI,P0,hr=>by
   rw[vy] at h;obtain⟨e,r,h1,h2⟩:=kh h;obtain⟨a1,a2,a3,a4,a5⟩:=z57 hT h1
   obtain⟨b1,b2,b3⟩:=zvl hT n (acc++[e]) h2 ⟨⟨List.pairwise_append.2 ⟨hI.can.asc,List.pairwise_singleton _ _,fun x hx y hy=>by
    simp at hy;subst hy;obtain⟨i,hi,rfl⟩:=List.getElem_of_mem hx;have h3:=a5 (by omega);unfold kd;rcases Nat.lt_or_ge i (acc.length - 1) with h4 | h4
    · have h5:=List.pairwise_iff_getElem.1 hI.can.asc i (acc.length - 1) hi (by omega) h4;unfold kd at h5;rw[qn (by omega)] at h3;omega
    · rw[qn (by omega)] at h3;have e':i=acc.length - 1:=by omega
      subst e';exact h3⟩,fun x hx=>by
    rcases List.mem_append.1 hx with hx | hx
    · exact hI.can.ent x hx
    · simp at hx;subst hx;exact a2⟩,fun x hx=>by
    rcases List.mem_append.1 hx with hx | hx
    · exact hI.lt x hx
    · simp at hx;subst hx;exact a3,fun i hi=>by
    rw[List.length_append,List.length_cons,List.length_nil] at hi;rcases Nat.lt_or_ge i acc.length with h4 | h4
    · rw[ziy h4];exact hI.lim i h4
    · obtain rfl:i=acc.length:=by omega
      rw[zos];exact a4⟩ (P0:=P0) (by
    rw[List.length_append,List.length_cons,List.length_nil,Nat.zero_add,zdq,zvk acc [e] acc.length (Nat.le_refl _)];exact zae.2 ⟨p,hr,a1⟩)
   refine⟨b1,b2,?_⟩;rw[b3,List.length_append,List.length_cons,List.length_nil];omega
theorem z58 {T:yo} {E:Nat} {le lh:Int} (hT:T64 T) {v:Vec} {p q:Nat} (h:zcg T E le lh p=.ok (v,q)):jr T p (vw v) q∧CanV v∧LtV v∧v≠[]∧okV le lh v:=by
 unfold zcg at h;obtain⟨n,r,h1,h2⟩:=kh h;obtain⟨t1,hc⟩:=ziw h1;split at h2
 · cases h2
 · rename_i h0;obtain⟨b1,b2,b3⟩:=zvl hT n [] h2 ⟨⟨List.Pairwise.nil,fun e he=>(by cases he)⟩,fun e he=>(by cases he),fun i hi=>(by simp at hi)⟩ (P0:=r) rfl;have hn:v.length=n:=by simpa using b3
   refine⟨?_,b2.can,b2.lt,fun e=>h0 (by rw[←hn,e];rfl),by rw[hn];exact hc,b2.lim⟩;unfold vw;rw[zvj,hn];exact⟨r,t1,by rw[←hn];exact b1⟩
end
section
open Go.RowKit
theorem zlm (v:Vec) (hh:∀e∈v,e.2.2.length≤500):∀d,d≤v.length→(ql v d).length≤1+1003*d
 | 0,_=>by simp[ql]
 | d+1,h=>by
   have h1:=zlm v hh d (by omega);have h2:=hh _ (jb (show d<v.length from h));rw[ql,List.length_append];unfold vv kf;rw[List.length_append,ze2];simp only[List.length_cons,List.length_nil];omega
theorem z59 {v:Vec} (h:LtV v) {d:Nat} (hd:d<v.length):zb5 v d<18446744073709551616:=by
 have h1:=(h _ (jb hd)).rep;unfold zb5;split
 · rename_i e;rw[←e];exact h1
 · omega
theorem zvm {v:Vec} (h:LtV v) (hh:∀e∈v,e.2.2.length≤500) {d:Nat} (hd:d<v.length):∀y∈vv v d,y<18446744073709551616:=by
 intro y hy;have hm:=jb hd;unfold vv at hy;rcases List.mem_append.1 hy with hy | hy
 · simp at hy;rcases hy with rfl | rfl | rfl
   · exact z59 h hd
   · exact(h _ hm).max
   · have:=hh _ hm;omega
 · exact zk5 (h _ hm).holes _ (Nat.le_refl _) y hy
set_option maxRecDepth 100000 in
theorem z6a (w0:World) (v0:Value) (nums:List Nat) (a:Option Addr) (n c:Nat) (v:Vec) (w:World) (hE:Ents w0 a n c v) (hw:Below w0.heap.size w0 w) (hA:v.Pairwise kd) (hG:∀e∈v,Good e.2.2) (hn:n≤300) (hh:∀e∈v,e.2.2.length≤500) (ho:OwnB w w0.heap.size v0 nums) (hl:nums.length≤600000000000):
 Calls Tryz.prog 69 #[v0,.slice a n c] w fun e w'=>∃v',e=.returned v'∧OwnB w' w0.heap.size v' (nums++vw v)∧Grw w w' v0 v':=by
 have HE:=hid hE;have Hl:=hid hE.len;have HA:=hid hA;have HG:=hid hG;have Hh:=hid hh;have Hlv:=hid hE.lt;have Hv0:=hid (show ∀k,v0.ownBlock=some k→w0.heap.size≤k from fun k hk=>(ho.lt k hk).1);have Hw:=hid hw;have Hpl:=hid (zlm v hh);have hcv:IntKind.u64.wrap (n:Int)=(n:Int):=by rw[IntKind.wrap_u64];omega
 have hC0:=hid (ze7 w0.heap.size v0 nums n w (by omega) ho hw.size (by omega));have Hall:=hid (show vw v=ql v n from by rw[←hE.len];rfl);have Hn0:=hid (show [n]=ql v 0 from by rw[←hE.len];rfl);clear hE hA hG hh ho hw;go_enter Tryz.func69,Tryz.ntmps69;go_wp2_with fail;refine hC0.out.mono ?_;rintro e w1 ⟨v1,rfl,ho1,hg1⟩;rw[Hn0.out] at ho1;have Ho1:=hid ho1;have Hg1:=hid hg1;clear ho1 hg1 hC0;go_wp2;go_loopw [0,5,6,7,8,9,11,19,57] (fun b _ _ _ _ _ _ i _ wr=>∃d:Nat,d≤n∧i=.int .i64 d∧Hid (Grw w wr v0 b)∧Hid (OwnB wr w0.heap.size b (nums++ql v d))) (fun _ _ _ _ _ _ _ i _ _=>n - (intOf i).toNat)
 case atStart=>exact⟨0,by omega,rfl,Hg1,Ho1⟩
 case round=>
  obtain⟨d,hd,rfl,hgr,hor⟩:=hrel;have hb:Below w0.heap.size w0 wr:=Hw.out.trans (hgr.out.toBelow Hw.out.size Hv0.out);have Hb:=hid hb;clear hb;by_cases hdn:d<n
  · have hdv:d<v.length:=by rw[Hl.out];exact hdn
    obtain⟨bb,oo,rfl⟩:=HE.out.some (by omega);obtain⟨x,m,c',hq⟩:=HE.out.fix hdn;obtain⟨q1,q2,q3,hI0⟩:=hq _ Hb.out;have Hqp:=hid (fun (h1:d - 1<n) w' (h:Below w0.heap.size w0 w')=>(HE.out.at h1 w' h).1);have hem:=jb hdv;have Hdo:=hid (zn9 (HG.out _ hem));have hm500:=Hh.out _ hem;have hm:m≤100000:=by have:=hI0.len;omega
    have Hdl:=hid (show ∀y∈kf (zc v d).2.2 1,y<18446744073709551616 from zk5 (Hlv.out _ hem).holes _ (Nat.le_refl _));have Hdlen:=hid (show (kf (zc v d).2.2 1).length=2*m from by unfold kf;rw[ze2,hI0.len]);have Hen:=hid (show vv v d=[zb5 v d,(zc v d).2.1,m]++kf (zc v d).2.2 1 from by unfold vv;rw[hI0.len]);have Hel:=hid (zvm Hlv.out Hh.out hdv);have Hpk:=hid (show ql v (d+1)=ql v d++vv v d from rfl);have Hp0:=hid (show nums.length+(ql v d).length+(3+2*m)≤1000000000000 from by have:=Hpl.out d (by omega);have:=hI0.len;omega);have Hrp:=hid (show zb5 v d=if d=0 then (zc v 0).1 else (zc v d).1 - (zc v (d - 1)).1 - 1 from rfl);have he0:d=0→zc v 0=zc v d:=fun h=>by rw[h]
    have hlt:=fun (h0:0<d)=>show (zc v (d - 1)).1<(zc v d).1 from by
     have:=List.pairwise_iff_getElem.1 HA.out (d - 1) d (by omega) hdv (by omega);unfold kd at this;rwa [←qn (by omega),←qn hdv] at this
    have hrl:=(Hlv.out _ hem).rep;have h0:(0:Int)≤d:=by omega
    have h04:(d:Int)<(n:Int):=by omega
    have hcm:IntKind.u64.wrap (m:Int)=(m:Int):=by rw[IntKind.wrap_u64];omega
    have Hqf:=hid (fun w' (h:Below w0.heap.size w0 w')=>(hq w' h).2.2.2);clear hq hI0 hem;generalize zb5 v d=rp at*;generalize zc v 0=e0 at*;generalize zc v d=en at*;obtain⟨er,mx,eh⟩:=en;generalize (zc v (d - 1)).1=pr at*;simp only at q1 q2 q3 Hqf Hdo Hdl Hdlen Hen Hrp hlt hrl hm500;have hal:Below wr.heap.size wr (wr.alloc (.cells #[.int .u64 er,.int .u64 mx,.slice x m c'] 101)):=(Below.refl _ _).alloc (Nat.le_refl _) _;have HX:=hid (zcc wr (.int .u64 er) (.int .u64 mx) (.slice x m c') 101);have hbW:=Hb.out.trans (hal.mono Hb.out.size);have HXf:=hid (fun w' (h:Below (wr.alloc (.cells #[.int .u64 er,.int .u64 mx,.slice x m c'] 101)).heap.size (wr.alloc (.cells #[.int .u64 er,.int .u64 mx,.slice x m c'] 101)) w')=>And.intro (HX.out w' h).1 (And.intro (HX.out w' h).2.1 (And.intro (HX.out w' h).2.2 (Hqf.out w' (hbW.trans (h.mono hbW.size))))));have HgW:=hid (hgr.out.below hal);have HoW:=hid (hor.out.below hal);have HbW:=hid hbW;clear hal hbW HX Hqf hgr hor;by_cases hd0:d=0
    · have hgp:rp=er:=by rw[Hrp.out,if_pos hd0,he0 hd0]
      have hq1:decide (0<(d:Int))=false:=by rw[decide_eq_false_iff_not];omega
      have hq2:¬0<d:=by omega
      subst hgp;clear Hrp he0 hlt hd0 Hqp;generalize hW:wr.alloc (.cells #[.int .u64 rp,.int .u64 mx,.slice x m c'] 101)=W at*;obtain⟨x1,x2,x3,-⟩:=HXf.out _ (Below.refl _ _);generalize u0=ub at*;have HXw:=hid (fun w' (h:Below W.heap.size W w')=>HXf.out w' h);clear HXf;obtain⟨x1,x2,x3,hIv⟩:=HXw.out W (Below.refl _ _);go_wp2_with fail;refine(zop x m c' 1 eh W hIv Hdo.out hm (Nat.le_refl _)).mono ?_;rintro e w4 ⟨⟨vd,rfl,hod⟩,hb4⟩;obtain⟨y1,y2,y3,-⟩:=HXw.out w4 hb4;obtain⟨ad,cd,rfl,hUd⟩:=zbf hod Hdl.out;have hal4:Below w4.heap.size w4 (w4.alloc (.cells #[.int .u64 (rp:Int),.int .u64 (mx:Int),.int .u64 (m:Int)] 52)):=(Below.refl _ _).alloc (Nat.le_refl _) _;have hRd:=hUd.rd.below hal4;obtain⟨v6,w6,hrun,ho6,hg6⟩:=zeo (w:=w4.alloc (.cells #[.int .u64 (rp:Int),.int .u64 (mx:Int),.int .u64 (m:Int)] 52)) w4.heap.size (.slice (some ⟨w4.heap.size,0,none⟩) 3 3) 3 [rp,mx,m] (World.ownsRow_lit (e:=52) (size:=1) (base:=w4.heap.size) w4 _ 3 (Nat.le_refl _) (by unfold maxLen;omega) rfl) ad (2*m) cd (kf eh 1) hRd (by omega) (by simp);have Hrun:=hid hrun;obtain⟨g6,c6,rfl,hg6b,hg6l,-,-⟩:=zb3 ho6 (by omega);have Ho6:=hid (show w6.ownsRow w4.heap.size 52 1 (.slice (some ⟨g6,0,none⟩) (3+2*m) c6) (3+2*m) (zi (vv v d)) from by rw[Hen.out];exact ho6);have hb46:Below w4.heap.size w4 w6:=hal4.grown hg6 (by simp) (fun k hk=>by simp[Value.ownBlock] at hk;omega);have HgW4:=hid (HgW.out.below hb4);have HoW4:=hid (HoW.out.below hb4);have Hg6:=hid (HgW4.out.below hb46);have Hu6:=hid (HoW4.out.below hb46);have hu6:∀k,ub.ownBlock=some k→k<w4.heap.size:=fun k hk=>(HoW4.out.lt k hk).2
      have hs6:w0.heap.size≤w6.heap.size:=by have:=Hg6.out.g.size;have:=Hw.out.size;omega
      have Hlt6:=hid (show ∀y∈vv v d,y<18446744073709551616 from Hel.out);have Hlen6:=hid (show (vv v d).length=3+2*m from by rw[Hen.out];simp[Hdlen.out];omega);clear x1 x2 x3 hIv hb4 hod hUd hal4 hRd hrun ho6 hg6 hb46 HXw;go_wp2_with (at_builtin;refine jf _ _ 50 rfl rfl _ _ rfl rfl _ _ Hrun.out ?_);clear Hrun y1 y2 y3;generalize hEn:vv v d=EN at*;have HEn:=hid hEn;clear hEn;generalize ql v d=P0 at*;go_wp2;go_loopw [0,11,57] (fun b _ i wi=>∃j:Nat,j≤3+2*m∧i=.int .i64 j∧Hid (Grw w6 wi ub b)∧Hid (OwnB wi w0.heap.size b ((nums++P0)++EN.take j))) (fun _ _ i _=>(3+2*m) - (intOf i).toNat)
      case atStart=>exact⟨0,by omega,rfl,Grw.refl _ _,by rw[List.take_zero,List.append_nil];exact Hu6.out⟩
      case round=>
       obtain⟨j,hj,rfl,hgi,hoi⟩:=hrel;by_cases hjn:j<3+2*m
       · have hrow:=hgi.out.row Ho6.out (fun k hk e=>by
          have h1:g6=k:=by simpa [Value.ownBlock] using hk
          have:=hu6 k e;omega)
         have q9:=hrow.cells (g:=g6) rfl j _ (zen EN j (by rw[Hlen6.out];exact hjn));rw[yp,Nat.zero_add] at q9;have hxl:=Hlt6.out _ (za5 (show j<EN.length by rw[Hlen6.out];exact hjn));have Hst:=hid (show EN.take (j+1)=EN.take j++[nth EN j] from by rw[List.take_succ_eq_append_getElem (by rw[Hlen6.out];exact hjn)];simp[nth,show j<EN.length by rw[Hlen6.out];exact hjn]);have h0j:(0:Int)≤j:=by omega
         have h04j:(j:Int)<((3+2*m:Nat):Int):=by omega
         have hnl:((nums++P0)++EN.take j).length≤1000000000000:=by
          rw[List.length_append,List.length_append,List.length_take];have:=Hp0.out;omega
         have hC:=hid (ze7 w0.heap.size _ _ (nth EN j) wr hxl hoi.out (by have:=hgi.out.g.size;omega) hnl);generalize nth EN j=xj at*;clear hrow hxl hnl;go_wp2_with fail;refine hC.out.mono ?_;rintro e w7 ⟨b',rfl,ho7,hg7⟩;have Ho7:=hid ho7;have Hg7:=hid (hgi.out.trans hg7);clear ho7 hg7;go_wp2;go_roundw
         case rel=>exact⟨j+1,by omega,by go_num,Hg7.out,by rw[Hst.out,←List.append_assoc];exact Ho7.out⟩
         case measure=>simp[intOf];omega
       · obtain rfl:j=3+2*m:=by omega
         have HoF:=hid (show OwnB wr w0.heap.size _ (nums++ql v (d+1)) from by
          have h:=hoi.out;rw[List.take_of_length_le (by rw[Hlen6.out];exact Nat.le_refl _)] at h;rw[Hpk.out,←List.append_assoc];exact h)
         have HgF:=hid (Hg6.out.trans hgi.out);go_wp2;go_roundw
         case rel=>exact⟨d+1,by omega,by go_num,HgF.out,HoF.out⟩
         case measure=>simp[intOf];omega
    · have hlt:=hlt (by omega);have hgp:rp=er - pr - 1:=by rw[Hrp.out,if_neg hd0]
      have hq1:decide (0<(d:Int))=true:=by rw[decide_eq_true_iff];omega
      have hq2:0<d:=by omega
      have hsub:IntKind.i64.wrap ((d:Int) - 1)=((d - 1:Nat):Int):=by rw[IntKind.wrap_i64];omega
      have h01:(0:Int)≤((d - 1:Nat):Int):=by omega
      have h03:((d - 1:Nat):Int)<(n:Int):=by omega
      have Hc1:=hid (Hqp.out (by omega));have hBt:=hid (fun w=>zgh pr er w hlt hrl);rw[←hgp] at hBt;clear hgp Hrp he0 hlt hd0 Hqp;generalize d - 1=d1 at*;generalize hW:wr.alloc (.cells #[.int .u64 er,.int .u64 mx,.slice x m c'] 101)=W at*;obtain⟨x1,x2,x3,-⟩:=HXf.out _ (Below.refl _ _);have HXg:=hid (fun w' (h:Below W.heap.size W w')=>And.intro (Hc1.out w' (HbW.out.trans (h.mono HbW.out.size))) (HXf.out w' h).1);go_wp2_with fail;refine qi (by kernel_rfl) (by kernel_rfl) ?_
      repeat (go_big_quiet_step ((intro hw;first
       | rfl
       | (obtain⟨y1,y2⟩:=HXg.out _ hw
          first
          | (go_at_call 120;refine(hBt.out _).mono ?_;rintro e w4 ⟨rfl,rfl⟩;exact⟨rfl,hw⟩)
          | (go_simp
             first | rfl | exact⟨rfl,hw⟩ | (trace_state;fail))))))
      refine wpQuiet_nil ?_;intro w3 hb3;have HXf:=hid (fun w' (h:Below w3.heap.size w3 w')=>HXf.out w' (hb3.trans (h.mono hb3.size)));have HgW:=hid (HgW.out.below hb3);have HoW:=hid (HoW.out.below hb3);have HbW:=hid (HbW.out.trans (hb3.mono HbW.out.size));clear hb3 x1 x2 x3 HXg Hc1 hW;obtain⟨W,hWe⟩:∃W:World,W=w3:=⟨_,rfl⟩;rw[←hWe] at HXf HgW HoW HbW ⊢;clear hWe;obtain⟨x1,x2,x3,-⟩:=HXf.out _ (Below.refl _ _);generalize u0=ub at*;have HXw:=hid (fun w' (h:Below W.heap.size W w')=>HXf.out w' h);clear HXf;obtain⟨x1,x2,x3,hIv⟩:=HXw.out W (Below.refl _ _);go_wp2_with fail;refine(zop x m c' 1 eh W hIv Hdo.out hm (Nat.le_refl _)).mono ?_;rintro e w4 ⟨⟨vd,rfl,hod⟩,hb4⟩;obtain⟨y1,y2,y3,-⟩:=HXw.out w4 hb4;obtain⟨ad,cd,rfl,hUd⟩:=zbf hod Hdl.out;have hal4:Below w4.heap.size w4 (w4.alloc (.cells #[.int .u64 (rp:Int),.int .u64 (mx:Int),.int .u64 (m:Int)] 52)):=(Below.refl _ _).alloc (Nat.le_refl _) _;have hRd:=hUd.rd.below hal4;obtain⟨v6,w6,hrun,ho6,hg6⟩:=zeo (w:=w4.alloc (.cells #[.int .u64 (rp:Int),.int .u64 (mx:Int),.int .u64 (m:Int)] 52)) w4.heap.size (.slice (some ⟨w4.heap.size,0,none⟩) 3 3) 3 [rp,mx,m] (World.ownsRow_lit (e:=52) (size:=1) (base:=w4.heap.size) w4 _ 3 (Nat.le_refl _) (by unfold maxLen;omega) rfl) ad (2*m) cd (kf eh 1) hRd (by omega) (by simp);have Hrun:=hid hrun;obtain⟨g6,c6,rfl,hg6b,hg6l,-,-⟩:=zb3 ho6 (by omega);have Ho6:=hid (show w6.ownsRow w4.heap.size 52 1 (.slice (some ⟨g6,0,none⟩) (3+2*m) c6) (3+2*m) (zi (vv v d)) from by rw[Hen.out];exact ho6);have hb46:Below w4.heap.size w4 w6:=hal4.grown hg6 (by simp) (fun k hk=>by simp[Value.ownBlock] at hk;omega);have HgW4:=hid (HgW.out.below hb4);have HoW4:=hid (HoW.out.below hb4);have Hg6:=hid (HgW4.out.below hb46);have Hu6:=hid (HoW4.out.below hb46);have hu6:∀k,ub.ownBlock=some k→k<w4.heap.size:=fun k hk=>(HoW4.out.lt k hk).2
      have hs6:w0.heap.size≤w6.heap.size:=by have:=Hg6.out.g.size;have:=Hw.out.size;omega
      have Hlt6:=hid (show ∀y∈vv v d,y<18446744073709551616 from Hel.out);have Hlen6:=hid (show (vv v d).length=3+2*m from by rw[Hen.out];simp[Hdlen.out];omega);clear x1 x2 x3 hIv hb4 hod hUd hal4 hRd hrun ho6 hg6 hb46 HXw;go_wp2_with (at_builtin;refine jf _ _ 50 rfl rfl _ _ rfl rfl _ _ Hrun.out ?_);clear Hrun y1 y2 y3;generalize hEn:vv v d=EN at*;have HEn:=hid hEn;clear hEn;generalize ql v d=P0 at*;go_wp2;go_loopw [0,11,57] (fun b _ i wi=>∃j:Nat,j≤3+2*m∧i=.int .i64 j∧Hid (Grw w6 wi ub b)∧Hid (OwnB wi w0.heap.size b ((nums++P0)++EN.take j))) (fun _ _ i _=>(3+2*m) - (intOf i).toNat)
      case atStart=>exact⟨0,by omega,rfl,Grw.refl _ _,by rw[List.take_zero,List.append_nil];exact Hu6.out⟩
      case round=>
       obtain⟨j,hj,rfl,hgi,hoi⟩:=hrel;by_cases hjn:j<3+2*m
       · have hrow:=hgi.out.row Ho6.out (fun k hk e=>by
          have h1:g6=k:=by simpa [Value.ownBlock] using hk
          have:=hu6 k e;omega)
         have q9:=hrow.cells (g:=g6) rfl j _ (zen EN j (by rw[Hlen6.out];exact hjn));rw[yp,Nat.zero_add] at q9;have hxl:=Hlt6.out _ (za5 (show j<EN.length by rw[Hlen6.out];exact hjn));have Hst:=hid (show EN.take (j+1)=EN.take j++[nth EN j] from by rw[List.take_succ_eq_append_getElem (by rw[Hlen6.out];exact hjn)];simp[nth,show j<EN.length by rw[Hlen6.out];exact hjn]);have h0j:(0:Int)≤j:=by omega
         have h04j:(j:Int)<((3+2*m:Nat):Int):=by omega
         have hnl:((nums++P0)++EN.take j).length≤1000000000000:=by
          rw[List.length_append,List.length_append,List.length_take];have:=Hp0.out;omega
         have hC:=hid (ze7 w0.heap.size _ _ (nth EN j) wr hxl hoi.out (by have:=hgi.out.g.size;omega) hnl);generalize nth EN j=xj at*;clear hrow hxl hnl;go_wp2_with fail;refine hC.out.mono ?_;rintro e w7 ⟨b',rfl,ho7,hg7⟩;have Ho7:=hid ho7;have Hg7:=hid (hgi.out.trans hg7);clear ho7 hg7;go_wp2;go_roundw
         case rel=>exact⟨j+1,by omega,by go_num,Hg7.out,by rw[Hst.out,←List.append_assoc];exact Ho7.out⟩
         case measure=>simp[intOf];omega
       · obtain rfl:j=3+2*m:=by omega
         have HoF:=hid (show OwnB wr w0.heap.size _ (nums++ql v (d+1)) from by
          have h:=hoi.out;rw[List.take_of_length_le (by rw[Hlen6.out];exact Nat.le_refl _)] at h;rw[Hpk.out,←List.append_assoc];exact h)
         have HgF:=hid (Hg6.out.trans hgi.out);go_wp2;go_roundw
         case rel=>exact⟨d+1,by omega,by go_num,HgF.out,HoF.out⟩
         case measure=>simp[intOf];omega
  · obtain rfl:d=n:=by omega
    have Ho:=hid hor.out;rw[←Hall.out] at Ho;go_wp2;go_ret;exact⟨_,rfl,Ho.out,hgr.out⟩
end
section
structure Cut (m:Nat) (T T':yo) (E E':Nat):Prop where
 tok:∀p,T' p=T p∨T' p=.error m
 le:E'=E∨(m=5∧E'≤E)
def zb8 {α:Type} (m:Nat) (a b:RR α):Prop:=b=a∨∃w,b=.error (m,w)
theorem za1 {m:Nat} {α β:Type} {a b:RR α} {f g:α→Nat→RR β} (h:zb8 m a b) (hf:∀x q,zb8 m (f x q) (g x q)):zb8 m (thn a f) (thn b g):=by
 rcases h with rfl | ⟨w,rfl⟩
 · cases b with
   | error e=>exact .inl rfl
   | ok y=>exact hf y.1 y.2
 · exact .inr ⟨w,rfl⟩
theorem za2 {m:Nat} {α:Type} (a:RR α):zb8 m a a:=.inl rfl
variable {m:Nat} {T T':yo} {E E':Nat}
theorem zg3 (h:Cut m T T' E E') (p:Nat):zb8 m (nmP T p) (nmP T' p):=by
 unfold nmP;rcases h.tok p with e | e
 · rw[e];exact .inl rfl
 · rw[e];exact .inr ⟨p,rfl⟩
theorem zln (h:Cut m T T' E E') (lim:Int) (p:Nat):zb8 m (kg T E lim p) (kg T' E' lim p):=by
 unfold kg;refine za1 (zg3 h p) fun x q=>?_
 unfold yz;rcases h.le with rfl | ⟨rfl,hle⟩
 · exact za2 _
 · by_cases h1:lim<(x:Int)∧x≠0
   · rw[if_pos h1,if_pos h1];exact za2 _
   · rw[if_neg h1,if_neg h1];by_cases h2:E' - q<x
     · rw[if_pos h2];exact .inr ⟨p,rfl⟩
     · rw[if_neg h2,if_neg (show ¬E - q<x by omega)];exact za2 _
theorem z6b (h:Cut m T T' E E') (lo q:Nat):zb8 m (hiP T lo q) (hiP T' lo q):=za1 (zg3 h q) fun x q=>za2 _
theorem zvn (h:Cut m T T' E E') (prev:Option Nat) (a p:Nat):zb8 m (ivP T prev a p) (ivP T' prev a p):=by
 unfold ivP;refine za1 (zg3 h p) fun x q=>?_
 cases loP prev a x with
 | none=>exact za2 _
 | some lo=>exact z6b h lo q
theorem zvo (h:Cut m T T' E E') (mx:Nat):∀n acc p,zb8 m (zac T mx n acc p) (zac T' mx n acc p)
 | 0,acc,p=>za2 _
 | n+1,acc,p=>by
   rw[zac,zac];refine za1 (zvn h _ _ p) fun s q=>?_
   unfold zdb;split
   · exact za2 _
   · exact zvo h mx n _ q
theorem zvp (h:Cut m T T' E E') (lim:Int):∀n acc p,zb8 m (vy T E lim n acc p) (vy T' E' lim n acc p)
 | 0,acc,p=>za2 _
 | n+1,acc,p=>by
   rw[vy,vy];refine za1 ?_ fun e q=>zvp h lim n _ q
   unfold ze3;refine za1 (zg3 h p) fun x q=>?_
   cases zay acc x with
   | none=>exact za2 _
   | some r=>exact za1 (zg3 h q) fun mx q=>za1 (zln h lim q) fun n q=>za1 (zvo h mx n [] q) fun _ _=>za2 _
theorem zvq (h:Cut m T T' E E') (le lh:Int):∀n acc p,zb8 m (vz T E le lh n acc p) (vz T' E' le lh n acc p)
 | 0,acc,p=>za2 _
 | n+1,acc,p=>by
   rw[vz,vz];refine za1 (za1 (zln h le p) fun n q=>?_) fun v q=>?_
   · split
     · exact za2 _
     · exact zvp h lh n [] q
   · split
     · exact za2 _
     · exact zvq h le lh n _ q
theorem zvr (h:Cut m T T' E E') (N:Nat):∀k l ix p,zb8 m (vm T N k l ix p) (vm T' N k l ix p)
 | 0,l,ix,p=>za2 _
 | k+1,l,ix,p=>by
   rw[vm,vm];refine za1 (zvn h _ _ p) fun s q=>za1 (zg3 h q) fun x r=>?_
   split
   · exact za2 _
   · split
     · exact za2 _
     · exact zvr h N k _ _ r
theorem zvs (h:Cut m T T' E E') (L:zt) (p:Nat):zb8 m (thn (kg T E L.2.1 p) fun n q=>thn (vz T E L.2.2.1 L.2.2.2.1 n [] q) fun vs q=>thn (kg T E L.2.2.2.2 q) fun m q=>thn (vm T vs.length m [] [] q) fun s q=>(.ok (vo vs s.1 s.2,q):RR Kno))
 (thn (kg T' E' L.2.1 p) fun n q=>thn (vz T' E' L.2.2.1 L.2.2.2.1 n [] q) fun vs q=>thn (kg T' E' L.2.2.2.2 q) fun m q=>thn (vm T' vs.length m [] [] q) fun s q=>.ok (vo vs s.1 s.2,q)):=
 za1 (zln h _ p) fun n q=>za1 (zvq h _ _ n [] q) fun vs q=>za1 (zln h _ q) fun m q=>za1 (zvr h _ m [] [] q) fun _ _=>za2 _
theorem zot (T:yo) (E:Nat) (L:zt) (p:Nat):zat T E L p=thn (thn (kg T E L.2.1 p) fun n q=>thn (vz T E L.2.2.1 L.2.2.2.1 n [] q) fun vs q=>thn (kg T E L.2.2.2.2 q) fun m q=>thn (vm T vs.length m [] [] q) fun s q=>(.ok (vo vs s.1 s.2,q):RR Kno)) fun c q=>zbi E c q:=by
 unfold zat zch;rw[ku];refine zas fun n q=>?_
 rw[ku];refine zas fun vs q=>?_
 rw[ku];refine zas fun m q=>?_
 rw[ku]
 rfl
theorem ycu (h:Cut m T T' E E) (L:zt) (p:Nat):zb8 m (zat T E L p) (zat T' E L p):=by
 rw[zot,zot];exact za1 (zvs h L p) fun c q=>za2 _
theorem z6c (h:Cut 5 T T' E E') (hT':∀p x q,T' p=.ok (x,q)→q≤E') (L:zt) {p z:Nat} {c:Kno} (hp:p≤E') (hd:zat T E L p=.ok (c,z)) (hz:E'<z):∃w,zat T' E' L p=.error (5,w):=by
 have key:=zvs h L p;rw[zot] at hd ⊢;obtain⟨c',z',h1,h2⟩:=kh hd;rw[h1] at key
 have hz':z'=z:=by
  unfold zbi at h2;split at h2
  · cases h2
  · split at h2
    · cases h2
    · cases h2;rfl
 subst hz';rcases key with k | ⟨w,k⟩
 · exfalso;obtain⟨n,q1,a1,a2⟩:=kh k;obtain⟨vs,q2,a3,a4⟩:=kh a2;obtain⟨m,q3,a5,a6⟩:=kh a4;obtain⟨s,q4,a7,a8⟩:=kh a6;cases a8;have hq3:=hT' _ _ _ (ziw a5).1
   have seg_le:∀m l ix p l' q,vm T' vs.length m l ix p=.ok (l',q)→p≤E'→q≤E':=by
    intro m
    induction m with
    | zero=>intro l ix p l' q h hp;cases h;exact hp
    | succ m ih=>
     intro l ix p l' q h hp;rw[vm] at h;obtain⟨s,r,b1,b2⟩:=kh h;unfold zdd at b2;obtain⟨x,r',b3,b4⟩:=kh b2;split at b4
     · cases b4
     · split at b4
       · cases b4
       · exact ih _ _ _ _ _ b4 (hT' _ _ _ (ze9 b3))
   have:=seg_le _ _ _ _ _ _ a7 hq3;omega
 · rw[k];exact⟨w,rfl⟩
end
end Go.Proofs.YtdnjfnofjaoajaaGreatDoor
