/- Part 12. -/
import Derived.Test.YtmfhggnlainmiaaGreatDoorPk11
set_option linter.unusedVariables false
set_option maxHeartbeats 16000000
namespace Go.Proofs.YtmfhggnlainmiaaGreatDoor
open Lib (hid)
section
def T64 (T:ye):Prop:=∀p x q,T p=.ok (x,q)→x<18446744073709551616
theorem zaw {α β:Type} {a:RR α} {f:α→Nat→RR β} {y:β×Nat} (h:thn a f=.ok y):∃x q,a=.ok (x,q)∧f x q=.ok y:=by
 cases a with
 | error e=>cases h
 | ok z=>exact⟨z.1,z.2,rfl,h⟩
theorem zgv {T:ye} {p x q:Nat} (h:nmP T p=.ok (x,q)):T p=.ok (x,q):=by
 unfold nmP at h
 cases hT:T p with
 | error c=>rw[hT] at h;cases h
 | ok y=>rw[hT] at h;cases h;rfl
theorem zlv {T:ye} {E p x q:Nat} {lim:Int} (h:jf T E lim p=.ok (x,q)):T p=.ok (x,q)∧okC x lim:=by
 unfold jf at h;obtain⟨y,r,h1,h2⟩:=zaw h;split at h2
 · rename_i h3;cases h2;refine⟨zgv h1,?_⟩;unfold ql at h3;unfold okC;split at h3
   · cases h3
   · rename_i h4;rcases Nat.eq_zero_or_pos x with h5 | h5
     · exact .inr h5
     · exact .inl (by
        by_cases h6:lim<(x:Int)
        · exact absurd ⟨h6,by omega⟩ h4
        · omega)
 · cases h2
theorem zdj {l:List Iv} {t:List Iv} {i:Nat} (h:i<l.length):zb (l++t) i=zb l i:=by
 rw[jg h,jg (by rw[List.length_append];omega),List.getElem_append_left h]
theorem zlw (l:List Iv) (s:Iv):zb (l++[s]) l.length=s:=by
 rw[jg (by simp)];simp
theorem zy1 (l t:List Iv) (a:Nat):∀d,d≤l.length→zal (l++t) a d=zal l a d
 | 0,_=>rfl
 | d+1,h=>by
   rw[zal,zal,zy1 l t a d (by omega),zdj h]
   have:vz (l++t) a d=vz l a d:=by
    unfold vz;rw[zdj (by omega),zdj (i:=d) h,zdj (by omega)]
   rw[this]
theorem zy2 (l:List Iv):qr l=if l.length=0 then none else some (zb l (l.length - 1)).2:=by
 unfold qr;rw[List.getLast?_eq_getElem?]
 cases h:l.length with
 | zero=>rw[List.length_eq_zero_iff.1 h];rfl
 | succ n=>rw[if_neg (by omega),show n+1 - 1=n by omega,List.getElem?_eq_getElem (by omega),jg (by omega)];rfl
theorem zy3 {T:ye} {l:List Iv} {a p q w:Nat} {s:Iv} (hT:T64 T) (hD:zdg l a) (hl:zo l) (h:ivP T (qr l) a p=.ok ((s,w),q)):
 zdg (l++[s]) a∧zo (l++[s])∧jq T p [vz (l++[s]) a l.length,s.2 - s.1] q:=by
 unfold ivP at h;obtain⟨x,r,h1,h2⟩:=zaw h;have t1:=zgv h1;have x64:=hT _ _ _ t1
 cases hlo:loP (qr l) a x with
 | none=>rw[hlo] at h2;cases h2
 | some lo=>
  rw[hlo] at h2;simp only[hiP] at h2;obtain⟨y,r',h3,h4⟩:=zaw h2;have t2:=zgv h3;split at h4
  · rename_i hb;cases h4
    have hg:vz (l++[(lo,lo+y)]) a l.length=x∧(0<l.length→(zb l (l.length - 1)).2+1+a≤lo)∧lo<18446744073709551616:=by
     rw[zy2] at hlo;unfold vz;rcases Nat.eq_zero_or_pos l.length with h0 | h0
     · rw[if_pos h0] at hlo;cases hlo;rw[if_pos h0];have:l=[]:=List.length_eq_zero_iff.1 h0;subst this;exact⟨rfl,fun h=>by simp at h,x64⟩
     · rw[if_neg (by omega)] at hlo;simp only[loP] at hlo;split at hlo
       · cases hlo;rw[if_neg (by omega),zlw,zdj (by omega)];exact⟨by simp only;omega,fun _=>by omega,by assumption⟩
       · cases hlo
    refine⟨fun i hi=>?_,fun t ht=>?_,⟨_,by rw[hg.1];exact t1,_,by rw[show (lo,lo+y).2 - (lo,lo+y).1=y by simp only;omega];exact t2,rfl⟩⟩
    · rw[List.length_append,List.length_cons,List.length_nil] at hi;rcases Nat.lt_or_ge i l.length with h5 | h5
      · rw[zdj h5];refine⟨(hD i h5).1,fun h0=>?_⟩;rw[zdj (by omega)];exact(hD i h5).2 h0
      · obtain rfl:i=l.length:=by omega
        rw[zlw];refine⟨by simp only;omega,fun h0=>?_⟩;rw[zdj (by omega)];exact hg.2.1 h0
    · rcases List.mem_append.1 ht with ht | ht
      · exact hl t ht
      · simp at ht;subst ht;exact⟨hg.2.2,hb⟩
  · cases h4
theorem zy4 {T:ye} {mx:Nat} (hT:T64 T):∀(n:Nat) (acc:List Iv) {p q:Nat} {h:List Iv},ke T mx n acc p=.ok (h,q)→zdg acc 1→zo acc→(∀s∈acc,s.2<mx)→
 ∀{P0:Nat},jq T P0 (zal acc 1 acc.length) p→jq T P0 (zal h 1 h.length) q∧zdg h 1∧zo h∧(∀s∈h,s.2<mx)∧h.length=acc.length+n
 | 0,acc,p,q,h,hh,hD,hl,hm,P0,hr=>by cases hh;exact⟨hr,hD,hl,hm,rfl⟩
 | n+1,acc,p,q,h,hh,hD,hl,hm,P0,hr=>by
   rw[ke] at hh;obtain⟨⟨s,w⟩,r,h1,h2⟩:=zaw hh;obtain⟨d1,d2,d3⟩:=zy3 hT hD hl h1;unfold zc0 at h2;split at h2
   · cases h2
   · rename_i h3;simp only at h3 h2
     obtain⟨e1,e2,e3,e4,e5⟩:=zy4 hT n (acc++[s]) h2 d1 d2 (fun t ht=>by
      rcases List.mem_append.1 ht with ht | ht
      · exact hm t ht
      · simp at ht;subst ht;omega) (P0:=P0) (by
      rw[List.length_append,List.length_cons,List.length_nil,Nat.zero_add,zal,zy1 acc [s] 1 acc.length (Nat.le_refl _),zlw];exact zbr.2 ⟨p,hr,d3⟩)
     refine⟨e1,e2,e3,e4,?_⟩;rw[e5,List.length_append,List.length_cons,List.length_nil];omega
theorem ya1 {l:List Iv} (h:zdg l 1):Good l:=znr fun i hi=>⟨(h i hi).1,fun h0=>by have:=(h i hi).2 h0;omega⟩
def zfx (v:Vec):Nat→List Nat
 | 0=>[]
 | d+1=>zfx v d++zam v d
theorem zy5 (v:Vec):∀d,jn v d=v.length :: zfx v d
 | 0=>rfl
 | d+1=>by rw[jn,zfx,zy5 v d];rfl
theorem zlx {v t:Vec} {i:Nat} (h:i<v.length):zg (v++t) i=zg v i:=by
 rw[j0 h,j0 (by rw[List.length_append];omega),List.getElem_append_left h]
theorem zsl (v:Vec) (e:Ent):zg (v++[e]) v.length=e:=by
 rw[j0 (by simp)];simp
theorem zy6 (v t:Vec):∀d,d≤v.length→zfx (v++t) d=zfx v d
 | 0,_=>rfl
 | d+1,h=>by
   rw[zfx,zfx,zy6 v t d (by omega)]
   have:zam (v++t) d=zam v d:=by
    unfold zam zdv;rw[zlx (i:=d) h,zlx (i:=0) (by omega),zlx (i:=d - 1) (by omega)]
   rw[this]
theorem ya2 (v:Vec):v.getLast?=if v.length=0 then none else some (zg v (v.length - 1)):=by
 rw[List.getLast?_eq_getElem?]
 cases h:v.length with
 | zero=>rw[List.length_eq_zero_iff.1 h];rfl
 | succ n=>rw[if_neg (by omega),show n+1 - 1=n by omega,List.getElem?_eq_getElem (by omega),j0 (by omega)]
theorem ya3 {T:ye} {E:Nat} {lim:Int} (hT:T64 T) {v:Vec} {e:Ent} {p q:Nat} (h:zao T E lim v p=.ok (e,q)):
 jq T p (zam (v++[e]) v.length) q∧CanE e∧LtE e∧okC e.2.2.length lim∧(0<v.length→(zg v (v.length - 1)).1<e.1):=by
 unfold zao at h;obtain⟨x,r,h1,h2⟩:=zaw h;have t1:=zgv h1
 cases hr:zbu v x with
 | none=>rw[hr] at h2;cases h2
 | some rp=>
  rw[hr] at h2;simp only[zer] at h2;obtain⟨mx,r2,h3,h4⟩:=zaw h2;have t2:=zgv h3;unfold ze7 at h4;obtain⟨n,r3,h5,h6⟩:=zaw h4;obtain⟨t3,hc⟩:=zlv h5;obtain⟨hl,r4,h7,h8⟩:=zaw h6;cases h8;obtain⟨e1,e2,e3,e4,e5⟩:=zy4 hT n [] h7 (fun i hi=>(by simp at hi)) (fun t ht=>(by cases ht)) (fun t ht=>(by cases ht)) (P0:=r3) rfl;have hn:hl.length=n:=by simpa using e5
  have hg:=ya1 e2
  have hrep:zdv (v++[(rp,mx,hl)]) v.length=x∧rp<18446744073709551616∧(0<v.length→(zg v (v.length - 1)).1<rp):=by
   have x64:=hT _ _ _ t1;unfold zbu at hr;rw[ya2] at hr;unfold zdv;rcases Nat.eq_zero_or_pos v.length with h0 | h0
   · rw[if_pos h0] at hr;cases hr;rw[if_pos h0];have:v=[]:=List.length_eq_zero_iff.1 h0;subst this;exact⟨rfl,x64,fun h=>by simp at h⟩
   · rw[if_neg (by omega)] at hr;simp only at hr;split at hr
     · cases hr;rw[if_neg (by omega),zsl,zlx (by omega)];exact⟨by simp only;omega,by assumption,fun _=>by omega⟩
     · cases hr
  refine⟨?_,⟨hg,fun s hs=>Nat.le_of_lt (e4 s hs),?_⟩,⟨hrep.2.1,hT _ _ _ t2,e3⟩,by simp only[hn];exact hc,hrep.2.2⟩
  · unfold zam;rw[hrep.1,zsl];refine zbr.2 ⟨r3,⟨r,t1,r2,t2,r3,by simp only[hn];exact t3,rfl⟩,e1⟩
  · cases hm:mem hl mx with
    | false=>rfl
    | true=>
     obtain⟨s,hs,a1,a2⟩:=mem_iff.1 hm;have:=e4 s hs;omega
structure EInv (lim:Int) (v:Vec):Prop where
 can:CanV v
 lt:LtV v
 lim:∀i,i<v.length→okC (zg v i).2.2.length lim
theorem zy7 {T:ye} {E:Nat} {lim:Int} (hT:T64 T):∀(n:Nat) (acc:Vec) {p q:Nat} {v:Vec},vu T E lim n acc p=.ok (v,q)→EInv lim acc→
 ∀{P0:Nat},jq T P0 (zfx acc acc.length) p→jq T P0 (zfx v v.length) q∧EInv lim v∧v.length=acc.length+n
 | 0,acc,p,q,v,h,hI,P0,hr=>by cases h;exact⟨hr,hI,rfl⟩
 | n+1,acc,p,q,v,h,hI,P0,hr=>by
   rw[vu] at h;obtain⟨e,r,h1,h2⟩:=zaw h;obtain⟨a1,a2,a3,a4,a5⟩:=ya3 hT h1
   obtain⟨b1,b2,b3⟩:=zy7 hT n (acc++[e]) h2 ⟨⟨List.pairwise_append.2 ⟨hI.can.asc,List.pairwise_singleton _ _,fun x hx y hy=>by
    simp at hy;subst hy;obtain⟨i,hi,rfl⟩:=List.getElem_of_mem hx;have h3:=a5 (by omega);unfold zay;rcases Nat.lt_or_ge i (acc.length - 1) with h4 | h4
    · have h5:=List.pairwise_iff_getElem.1 hI.can.asc i (acc.length - 1) hi (by omega) h4;unfold zay at h5;rw[j0 (by omega)] at h3;omega
    · rw[j0 (by omega)] at h3;have e':i=acc.length - 1:=by omega
      subst e';exact h3⟩,fun x hx=>by
    rcases List.mem_append.1 hx with hx | hx
    · exact hI.can.ent x hx
    · simp at hx;subst hx;exact a2⟩,fun x hx=>by
    rcases List.mem_append.1 hx with hx | hx
    · exact hI.lt x hx
    · simp at hx;subst hx;exact a3,fun i hi=>by
    rw[List.length_append,List.length_cons,List.length_nil] at hi;rcases Nat.lt_or_ge i acc.length with h4 | h4
    · rw[zlx h4];exact hI.lim i h4
    · obtain rfl:i=acc.length:=by omega
      rw[zsl];exact a4⟩ (P0:=P0) (by
    rw[List.length_append,List.length_cons,List.length_nil,Nat.zero_add,zfx,zy6 acc [e] acc.length (Nat.le_refl _)];exact zbr.2 ⟨p,hr,a1⟩)
   refine⟨b1,b2,?_⟩;rw[b3,List.length_append,List.length_cons,List.length_nil];omega
theorem ya4 {T:ye} {E:Nat} {le lh:Int} (hT:T64 T) {v:Vec} {p q:Nat} (h:za3 T E le lh p=.ok (v,q)):jq T p (zan v) q∧CanV v∧LtV v∧v≠[]∧okV le lh v:=by
 unfold za3 at h;obtain⟨n,r,h1,h2⟩:=zaw h;obtain⟨t1,hc⟩:=zlv h1;split at h2
 · cases h2
 · rename_i h0;obtain⟨b1,b2,b3⟩:=zy7 hT n [] h2 ⟨⟨List.Pairwise.nil,fun e he=>(by cases he)⟩,fun e he=>(by cases he),fun i hi=>(by simp at hi)⟩ (P0:=r) rfl;have hn:v.length=n:=by simpa using b3
   refine⟨?_,b2.can,b2.lt,fun e=>h0 (by rw[←hn,e];rfl),by rw[hn];exact hc,b2.lim⟩;unfold zan;rw[zy5,hn];exact⟨r,t1,by rw[←hn];exact b1⟩
end
section
open Go.RowKit
def SegB (wz w:World) (base:Nat) (K:Value) (vs:List Vec) (l:List Iv) (ix:List Nat) (all:Value) (la:List Iv):Prop:=
 ∃X Y,base≤wz.heap.size∧Steady 0 zb8 wz w∧(∀i,i<vs.length→EnSl wz 0 (Y i) (kd vs i))∧w.ownsRow base 127 2 K vs.length (zb9 vs.length X Y)∧
  (∀i,i<vs.length→w.ownsRow wz.heap.size 135 2 (X i) (itN l ix i).length (ivC (itN l ix i)))∧(∀i,i<vs.length→∀j,j<vs.length→i≠j→∀b,(X i).ownBlock=some b→(X j).ownBlock≠some b)∧
  w.ownsRow wz.heap.size 135 2 all la.length (ivC la)∧∀i,i<vs.length→∀b,(X i).ownBlock=some b→all.ownBlock≠some b
theorem SegB.seg {wz w:World} {base:Nat} {K all:Value} {vs:List Vec} {l la:List Iv} {ix:List Nat} (h:SegB wz w base K vs l ix all la):SegM w base K vs l ix:=by
 obtain⟨X,Y,h1,h2,h3,h4,h5,h6,-,-⟩:=h;exact⟨wz,X,Y,h1,h2,h3,h4,h5,h6⟩
theorem SegB.own {wz w:World} {base:Nat} {K all:Value} {vs:List Vec} {l la:List Iv} {ix:List Nat} (h:SegB wz w base K vs l ix all la):w.ownsRow base 135 2 all la.length (ivC la):=by
 obtain⟨X,Y,h1,h2,h3,h4,h5,h6,h7,h8⟩:=h;exact qt h7 h1
theorem SegB.steady {wz w w':World} {base:Nat} {K all:Value} {vs:List Vec} {l la:List Iv} {ix:List Nat} (h:SegB wz w base K vs l ix all la) (hs:Steady 0 jw w w'):SegB wz w' base K vs l ix all la:=by
 obtain⟨X,Y,h1,h2,h3,h4,h5,h6,h7,h8⟩:=h;exact⟨X,Y,h1,h2.trans (hs.weak fun T hT=>hT.imp id .inl),h3,zd8 h4 hs (.inr (.inr rfl)),fun i hi=>zd8 (h5 i hi) hs (.inl rfl),h6,zd8 h7 hs (.inl rfl),h8⟩
theorem SegB.grown {wz w w':World} {base g:Nat} {K all:Value} {vs:List Vec} {l la:List Iv} {ix:List Nat} (h:SegB wz w base K vs l ix all la) (hN:NotT w g) (hg:w.grownBy w' (some g)):SegB wz w' base K vs l ix all la:=h.steady (zhm hN (Nat.zero_le _) hg)
theorem SegB.later {wz w w':World} {base:Nat} {K all:Value} {vs:List Vec} {l la:List Iv} {ix:List Nat} (h:SegB wz w base K vs l ix all la) (hb:Below w.heap.size w w'):SegB wz w' base K vs l ix all la:=h.steady (.of_below hb)
theorem ya5 {w:World} {base sz n:Nat} {e:TypeId} {v:Value} {xs:List Value} (h:w.ownsRow base e sz v n xs):∀k,v.ownBlock=some k→∃C fr,w.heap[k]?=some (.cells C e fr):=fun k hk=>by
 rcases h.2 with ⟨e,_⟩ | ⟨b,cap',cur,e,_,hh,_⟩
 · rw[e] at hk;cases hk
 · have e':b=k:=by rw[e] at hk;simpa [Value.ownBlock] using hk
   subst e';exact⟨_,_,hh⟩
theorem SegB.more {wz w:World} {base:Nat} {K all:Value} {vs:List Vec} {l la:List Iv} {ix:List Nat} (h:SegB wz w base K vs l ix all la) (s:Iv) (A:Option Addr) (c:Nat) (hr:Rd w 2 A 1 (ivC [s])) (hb:la.length+1≤1000000000000):
 ∃S' w',(Builtin.append_ #[123,123] 123 #[all,.slice A 1 c]).run Tryz.prog w=.ok S' w'∧w.grownBy w' all.ownBlock∧(∀k,all.ownBlock=some k→base≤k∧∃C fr,w.heap[k]?=some (.cells C 135 fr))∧SegB wz w' base K vs l ix S' (la++[s]):=by
 obtain⟨X,Y,h1,h2,h3,h4,h5,h6,h7,h8⟩:=h;obtain⟨S',w',hrun,ho,hg,hat⟩:=zob wz.heap.size all _ _ h7 A c s hr (by omega) h2.size;have keep:∀k,k<w.heap.size→all.ownBlock≠some k→w'.heap[k]?=w.heap[k]?:=fun k hk hne=>hg.block k hk fun e=>hne e.symm
 refine⟨S',w',hrun,hg,fun k hk=>⟨Nat.le_trans h1 (h7.lt k hk).1,ya5 h7 k hk⟩,X,Y,h1,⟨Nat.le_trans h2.size hg.size,fun k hk hp=>?_⟩,h3,?_,fun i hi=>?_,h6,by rw[List.length_append];exact ho,fun i hi b hx hy=>?_⟩
 · rw[keep k (Nat.lt_of_lt_of_le hk h2.size) fun e=>by have:=(h7.lt k e).1;omega];exact h2.row k hk hp
 · exact vh h4 fun k hk=>keep k (h4.lt k hk).2 fun e=>zeb h4 h7 (by decide) k hk e
 · exact vh (h5 i hi) fun k hk=>keep k ((h5 i hi).lt k hk).2 (h8 i hi k hk)
 · rcases hat b hy with h' | h'
   · exact h8 i hi b hx h'
   · have:=((h5 i hi).lt b hx).2;omega
theorem SegB.put {wz w:World} {base g cap:Nat} {all:Value} {la:List Iv} {vs:List Vec} {l:List Iv} {ix:List Nat} (h:SegB wz w base (.slice (some ⟨g,0,none⟩) vs.length cap) vs l ix all la) (hli:ix.length=l.length) {i:Nat} (hi:i<vs.length) {S:Value} (hS:w.cell? ⟨g,i*2,none⟩=some S) (s:Iv)
 (W:World) (hW:Below w.heap.size w W) (A:Option Addr) (c:Nat) (hr:Rd W 2 A 1 (ivC [s])) (hb:l.length+1≤1000000000000):
 ∃S' w',(Builtin.append_ #[123,123] 123 #[S,.slice A 1 c]).run Tryz.prog W=.ok S' w'∧(∃gS m cS,S'=.slice (some ⟨gS,0,none⟩) m cS)∧W.grownBy w' S.ownBlock∧(∀k,S.ownBlock=some k→base≤k∧∃C fr,W.heap[k]?=some (.cells C 135 fr))∧w'.cell? ⟨g,i*2,none⟩=some S∧w'.frozen? ⟨g,i*2,none⟩=false∧
  ∀w2,w'.grownBy w2 none→SegB wz (w2.setCell ⟨g,i*2,none⟩ S') base (.slice (some ⟨g,0,none⟩) vs.length cap) vs (l++[s]) (ix++[i]) all la:=by
 obtain⟨X,Y,h1,h2,h3,h4,h5,h6,h7,h8⟩:=h
 have e0:X i=S:=by
  have c1:=h4.cells (g:=g) rfl _ _ (zgp hi X Y).1;rw[qg,Nat.zero_add,hS] at c1;injection c1 with c1;exact c1.symm
 subst e0;have k4:=zm h4 hW;have k5:=fun j hj=>zm (h5 j hj) hW
 have hz:wz.heap.size≤W.heap.size:=Nat.le_trans h2.size hW.size;have hit:(itN l ix i).length≤l.length:=zr0 _ _ _ _;obtain⟨S',w',hrun,ho,hg,hat⟩:=zob wz.heap.size (X i) _ _ (k5 i hi) A c s hr (by omega) hz
 have hty:∀k,(X i).ownBlock=some k→∃C fr,W.heap[k]?=some (.cells C 135 fr):=fun k hk=>by
  rcases(k5 i hi).2 with ⟨e,_⟩ | ⟨b,cap',cur,e,_,hh,_⟩
  · rw[e] at hk;cases hk
  · have e':b=k:=by rw[e] at hk;simpa [Value.ownBlock] using hk
    subst e';exact⟨_,_,hh⟩
 have hne:(X i).ownBlock≠some g:=fun e=>zeb k4 (k5 i hi) (by decide) g rfl e
 have e4:w'.ownsRow base 127 2 (.slice (some ⟨g,0,none⟩) vs.length cap) vs.length (zb9 vs.length X Y):=vh k4 fun k hk=>by
  have e:g=k:=by simpa [Value.ownBlock] using hk
  subst e;exact hg.block g (k4.lt g rfl).2 fun e=>hne e.symm
 have hcell:w'.cell? ⟨g,i*2,none⟩=some (X i):=by
  have c1:=e4.cells (g:=g) rfl _ _ (zgp hi X Y).1;rwa [qg,Nat.zero_add] at c1
 obtain⟨gS,cS,eS,-⟩:=zcz ho (Nat.succ_pos _);refine⟨S',w',hrun,⟨gS,_,cS,eS⟩,hg,fun k hk=>⟨Nat.le_trans h1 ((k5 i hi).lt k hk).1,hty k hk⟩,hcell,e4.frozenAt _,fun w2 hw2=>?_⟩;have f4:=vh (w':=w2) e4 fun k hk=>hw2.block k (e4.lt k hk).2 (by simp)
 have fS:=vh (w':=w2) ho fun k hk=>hw2.block k (ho.lt k hk).2 (by simp)
 obtain⟨p1,p2⟩:=f4.stored (i*2) S'
 have hrow:∃C fr,w2.heap[g]?=some (.cells C 127 fr):=by
  rcases f4.2 with ⟨h',_⟩ | ⟨g',cap',cur,h',_,hh,_⟩
  · cases h'
  · cases h';exact⟨_,_,hh⟩
 obtain⟨C,fr,hrow⟩:=hrow;have hset:∀k,k≠g→k<w2.heap.size→(w2.setCell ⟨g,i*2,none⟩ S').heap[k]?=w2.heap[k]?:=fun k hk hl=>p2.block k hl fun e=>hk (by injection e)
 have hst:Steady 0 zb8 w2 (w2.setCell ⟨g,i*2,none⟩ S'):=.setCell hrow (Nat.zero_le _) (by rintro(h | h) <;> cases h)
 have hsWw:Steady 0 zb8 wz w':=⟨Nat.le_trans hz hg.size,fun k hk hp=>by
  have hkW:k<W.heap.size:=Nat.lt_of_lt_of_le hk hz;have hkw:=Nat.lt_of_lt_of_le hk h2.size;rw[hg.block k hkW fun e=>by have:=((k5 i hi).lt k e.symm).1;omega,hW.block k hkw];exact h2.row k hk hp⟩
 refine⟨upd X i S',Y,h1,(hsWw.trans (⟨hw2.size,fun k hk _=>hw2.block k hk (by simp)⟩:Steady 0 zb8 w' w2)).trans hst,h3,?_,fun j hj=>?_,fun a ha b hb hab x hx=>?_,?_,fun a ha x hx=>?_⟩
 · rw[←zr1 hi];exact p1
 · by_cases e:j=i
   · subst e;rw[zeq,zof hli,if_pos rfl,List.length_append]
     exact vh fS fun k hk=>hset k (fun e=>by
      subst e;exact zeb f4 fS (by decide) k rfl hk) (fS.lt k hk).2
   · rw[zdh _ _ e,zof hli,if_neg (fun h=>e h.symm),List.append_nil];refine vh (h5 j hj) fun k hk=>?_
     have hl5:=(h5 j hj).lt k hk;have hkW:k<W.heap.size:=Nat.lt_of_lt_of_le hl5.2 hW.size;rw[hset k (fun e'=>by subst e';exact zeb h4 (h5 j hj) (by decide) k rfl hk) (Nat.lt_of_lt_of_le hkW (Nat.le_trans hg.size hw2.size)),hw2.block k (Nat.lt_of_lt_of_le hkW hg.size) (by simp),hg.block k hkW (fun e'=>h6 j hj i hi e k hk e'.symm),hW.block k hl5.2]
 · by_cases ea:a=i
   · subst ea;rw[zeq] at hx;rw[zdh _ _ (fun e=>hab e.symm)];intro hy;rcases hat x hx with h' | h'
     · exact h6 a ha b hb hab x h' hy
     · have:=((h5 b hb).lt x hy).2;have:=hW.size;omega
   · rw[zdh _ _ ea] at hx;by_cases eb:b=i
     · subst eb;rw[zeq];intro hy;rcases hat x hy with h' | h'
       · exact h6 a ha b hb hab x hx h'
       · have:=((h5 a ha).lt x hx).2;have:=hW.size;omega
     · rw[zdh _ _ eb];exact h6 a ha b hb hab x hx
 · have hl7:=fun k hk=>h7.lt k hk
   refine vh h7 fun k hk=>?_
   have hkW:k<W.heap.size:=Nat.lt_of_lt_of_le (h7.lt k hk).2 hW.size;rw[hset k (fun e'=>by subst e';exact zeb h4 h7 (by decide) k rfl hk) (Nat.lt_of_lt_of_le hkW (Nat.le_trans hg.size hw2.size)),hw2.block k (Nat.lt_of_lt_of_le hkW hg.size) (by simp),hg.block k hkW (fun e'=>h8 i hi k e'.symm hk),hW.block k (h7.lt k hk).2]
 · by_cases ea:a=i
   · subst ea;rw[zeq] at hx;intro hy;rcases hat x hx with h' | h'
     · exact h8 a ha x h' hy
     · have:=(h7.lt x hy).2;have:=hW.size;omega
   · rw[zdh _ _ ea] at hx;exact h8 a ha x hx
end
section
open Go.RowKit
attribute [local go_sem] y9
theorem zy8 (g:Nat) (L:zc) (nx V cu:Value) (s:PS) (k:Nat) (h:List Iv) (w:World) (hR:Row w g 347 (pkC L nx V s.ents k cu)) (he:0<s.ents) (he2:s.ents<18446744073709551616) (hk:k<18446744073709551616):
 Calls Tryz.prog 340 #[.pointer (some ⟨g,0,none⟩)] w fun e w'=>e=.returned (pkF g (zah s k h).tag)∧Row w' g 347 (pkC L nx V (zah s k h).ents (zah s k h).hls cu)∧w.grownBy w' (some g):=by
 obtain⟨tag,v,rep,mx,hh,ents,hls,lo⟩:=s;simp only at hR he he2;have q8:=hR.cell 8 rfl;have q9:=hR.cell 9 rfl;have z8:=hR.fz 8;have z9:=hR.fz 9;by_cases h0:0<k
 · have Hn:=hid (show zah ⟨tag,v,rep,mx,hh,ents,hls,lo⟩ k h=⟨4,v,rep,mx,h,ents,k - 1,lo⟩ from by unfold zah;rw[if_pos h0]);have e1:IntKind.u64.wrap ((k:Int) - 1)=((k - 1:Nat):Int):=by rw[IntKind.wrap_u64];omega
   have e2:(k:Int) - 1=((k - 1:Nat):Int):=by omega
   have HF:=hid (show Row (w.setCell ⟨g,9,none⟩ (.int .u64 ((k - 1:Nat):Int))) g 347 (pkC L nx V ents (k - 1) cu) from hR.set 9 _);rw[Hn.out];clear hR q8 z8 he he2;generalize k - 1=k1 at*;go_enter Tryz.func340,Tryz.ntmps340;go_wp2_with fail;go_ret;exact⟨rfl,HF.out,qh _ _ _ _⟩
 · obtain rfl:k=0:=by omega
   have e1:IntKind.u64.wrap ((ents - 1:Nat):Int)=((ents - 1:Nat):Int):=by rw[IntKind.wrap_u64];omega
   have e2:(ents:Int) - 1=((ents - 1:Nat):Int):=by omega
   have HF:=hid (show Row (w.setCell ⟨g,8,none⟩ (.int .u64 ((ents - 1:Nat):Int))) g 347 (pkC L nx V (ents - 1) 0 cu) from hR.set 8 _);by_cases h1:1<ents
   · have Hn:=hid (show zah ⟨tag,v,rep,mx,hh,ents,hls,lo⟩ 0 h=⟨1,v++[(rep,mx,h)],rep,mx,[],ents - 1,0,lo⟩ from by unfold zah;rw[if_neg (by omega),if_pos h1]);have h2:0<ents - 1:=by omega
     rw[Hn.out];clear hR he he2 h1;generalize ents - 1=e at*;go_enter Tryz.func340,Tryz.ntmps340;go_wp2_with fail;go_ret;exact⟨rfl,HF.out,qh _ _ _ _⟩
   · obtain rfl:ents=1:=by omega
     have Hn:=hid (show zah ⟨tag,v,rep,mx,hh,1,hls,lo⟩ 0 h=⟨6,v++[(rep,mx,h)],rep,mx,[],0,0,lo⟩ from by unfold zah;rw[if_neg (by omega),if_neg (by omega)];rfl);rw[Hn.out];clear hR he he2 h1 e1 e2;go_enter Tryz.func340,Tryz.ntmps340;go_wp2_with fail;go_ret;exact⟨rfl,HF.out,qh _ _ _ _⟩
theorem zy9 {w:World} {base:Nat} {s:PS} {V cu:Value} {k:Nat} {h:List Iv} (hE:EntO w base V s.v s.rep s.mx h) (hC:CuAt w base cu none h) (hl:zo h):PkB w base (zah s k h) V cu:=by
 unfold zah;split
 · exact⟨hE,hC⟩
 · split
   · exact hE.close hl
   · exact hE.close hl
set_option maxRecDepth 20000 in
theorem ya6 (base g:Nat) (L:zc) (nx:Value) (s:PS) (x rest:Nat) (w:World) (h:PkR w base g L nx s) (ht:s.tag=3) (hL:LimsI L) (hx:x<18446744073709551616) (hr:rest<9223372036854775808) (he:0<s.ents) (he2:s.ents<18446744073709551616):
 Calls Tryz.prog 337 #[.pointer (some ⟨g,0,none⟩),.int .u64 (x:Int),.int .i64 (rest:Int)] w (PkS w base g L (jm L.2.2.1 L.2.2.2.1 s x rest)):=by
 have hps:jm L.2.2.1 L.2.2.2.1 s x rest=if ql x L.2.2.2.1 rest≠0 then .error (ql x L.2.2.2.1 rest) else .ok (zah s x []):=by
  unfold jm;rw[ht];rfl
 rw[hps];clear hps;obtain⟨hg,V,cu,hR,hB⟩:=h;have hE:EntO w base V s.v s.rep s.mx []:=by unfold PkB at hB;rw[ht] at hB;exact hB
 have HL:=hid (zys x L.2.2.2.1 rest w hx hL.d hr);have q3:=hR.cell 3 rfl;have HR:=hid hR;have Hg:=hid (show base≤w.heap.size by have:=hR.lt;omega);clear hB;by_cases hc:ql x L.2.2.2.1 rest=0
 · rw[hc] at HL;rw[if_neg (fun h=>h hc)];have HE:=hid hE;have HX:=hid hx;have He:=hid he;have He2:=hid he2;clear hc hx hr hR hE he he2 ht;go_enter Tryz.func337,Tryz.ntmps337;go_wp2_with fail;refine HL.out.mono ?_;rintro e w' ⟨rfl,rfl⟩;simp only[zj6,if_true];go_wp2_with fail;refine(zyb 1 w).mono ?_;rintro e w1 ⟨rfl,hc1,hb1⟩;have h1:=HR.out.later hb1;have p9:=h1.cell 9 rfl;have p10:=h1.cell 10 rfl;have z9:=h1.fz 9;have z10:=h1.fz 10;have h2:Row ((w1.setCell ⟨g,9,none⟩ (.int .u64 (x:Int))).setCell ⟨g,10,none⟩ (.pointer (some ⟨w.heap.size,0,none⟩))) g 347 (pkC L nx V s.ents x (.pointer (some ⟨w.heap.size,0,none⟩))):=(h1.set 9 _).set 10 _;have hgr:w1.grownBy ((w1.setCell ⟨g,9,none⟩ (.int .u64 (x:Int))).setCell ⟨g,10,none⟩ (.pointer (some ⟨w.heap.size,0,none⟩))) (some g):=yz (a:=⟨g,10,none⟩) (yz (a:=⟨g,9,none⟩) (vy _ _) _ (.inr rfl)) _ (.inr rfl);have HC:=hid (hc1.grown hgr (fun e=>by injection e with e;have:=HR.out.lt;omega));have HE2:=hid ((HE.out.later hb1).grown (h1.notT (by rintro(h | h | h) <;> cases h)) hgr);have HH:=hid (zy8 g L nx V (.pointer (some ⟨w.heap.size,0,none⟩)) s x [] _ h2 He.out He2.out HX.out);have HR2:=hid h2;have HoG:=hid (HR.out.okR zlq);have Hb:=hid (((BelT.to hb1 Hg.out).setCell (p:=⟨g,9,none⟩) hg (.int .u64 (x:Int)) HoG.out).setCell (p:=⟨g,10,none⟩) hg (.pointer (some ⟨w.heap.size,0,none⟩)) HoG.out);clear h1 h2 hgr hc1 hb1 q3;go_wp2_with fail;refine HH.out.mono ?_;rintro e w4 ⟨rfl,hR4,hg4⟩;have HR4:=hid hR4;have hN:=HR2.out.notT (by rintro(h | h | h) <;> cases h);have HE4:=hid (HE2.out.grown hN hg4);have HC4:=hid (HC.out.grown hg4 (fun e=>by injection e with e;have:=HR.out.lt;omega));have Hb4:=hid (Hb.out.grown hg4 (by have:=Hb.out.size;have:=Hg.out;omega) (fun k hk=>by injection hk with hk;omega) (zec HoG.out));clear hR4 hN hg4;generalize hnh:zah s x []=s' at*;have Hnh:=hid hnh;clear hnh;generalize hF:pkF g s'.tag=F at*;have HF:=hid hF;clear hF;go_wp2_with fail;go_ret2;refine⟨Hb4.out,nx,by rw[HF.out];rfl,hg,V,_,HR4.out,?_⟩;rw[←Hnh.out];exact zy9 HE4.out ⟨w.heap.size,0,rfl,Hg.out,fun y h=>(by cases h),HC4.out⟩ (fun t h=>(by cases h))
 · rw[if_pos hc];have hcv:zj6 (ql x L.2.2.2.1 rest)=.iface 27 (.int .i64 ((ql x L.2.2.2.1 rest:Nat):Int)):=if_neg hc;rw[hcv] at HL;clear hc hx hr hR hcv hE he he2 ht;generalize ql x L.2.2.2.1 rest=c at*;go_enter Tryz.func337,Tryz.ntmps337;go_wp2_with fail;refine HL.out.mono ?_;rintro e w' ⟨rfl,rfl⟩;go_wp2_with fail;go_ret2;exact⟨BelT.refl _ _,rfl,_,HR.out,rfl⟩
set_option maxRecDepth 20000 in
theorem ya7 (base g:Nat) (L:zc) (nx:Value) (s:PS) (x rest:Nat) (w:World) (h:PkR w base g L nx s) (ht:s.tag=4) (hx:x<18446744073709551616) (hl:zo s.h):
 Calls Tryz.prog 342 #[.pointer (some ⟨g,0,none⟩),.int .u64 (x:Int),.int .i64 (rest:Int)] w (PkS w base g L (jm L.2.2.1 L.2.2.2.1 s x rest)):=by
 obtain⟨tag,v,rep,mx,hh,ents,hls,lo⟩:=s;simp only at ht hl;subst ht;obtain⟨hg,V,cu,hR,hB⟩:=h;obtain⟨hE,c,y,rfl,hbc,-,hC⟩:EntO w base V v rep mx hh∧CuAt w base cu none hh:=hB;have hps:jm L.2.2.1 L.2.2.2.1 ⟨4,v,rep,mx,hh,ents,hls,lo⟩ x rest=match loP (qr hh) 1 x with | none=>.error 8 | some z=>.ok ⟨5,v,rep,mx,hh,ents,hls,z⟩:=rfl
 rw[hps];clear hps;have HL:=hid (zsc c 1 y x hh.getLast? w hC (fun s hs=>(hl s (List.mem_of_getLast? hs)).2) (by omega) hx);have q10:=hR.cell 10 rfl;have HR:=hid hR;have HE:=hid hE;have HC:=hid hC;have Hne:=hid (hR.ne hC (by decide));have Hbw:=hid (show base≤w.heap.size by have:=hR.lt;omega);have HoC:=hid (hC.okR zoi);clear hR hE hC hx hl;unfold qr
 cases hlo:loP (hh.getLast?.map (·.2)) 1 x with
 | none=>
  rw[hlo] at HL;clear hlo;go_enter Tryz.func342,Tryz.ntmps342;go_wp2_with fail;refine HL.out.mono ?_;rintro e w1 ⟨rfl,hc1,hg1⟩;have HR1:=hid (HR.out.grown hg1 (fun e=>Hne.out (by injection e)));have Hb:=hid ((BelT.refl base w).grown hg1 Hbw.out (fun k hk=>by injection hk with hk;omega) (zec HoC.out));clear hc1 hg1;go_wp2_with fail;go_ret2
  exact⟨Hb.out,rfl,_,HR1.out,rfl⟩
 | some z=>
  rw[hlo] at HL;clear hlo;go_enter Tryz.func342,Tryz.ntmps342;go_wp2_with fail;refine HL.out.mono ?_;rintro e w1 ⟨rfl,hc1,hg1⟩;have HR1:=hid (HR.out.grown hg1 (fun e=>Hne.out (by injection e)));have Hb:=hid ((BelT.refl base w).grown hg1 Hbw.out (fun k hk=>by injection hk with hk;omega) (zec HoC.out));have HE1:=hid (HE.out.grown (HC.out.notT (by rintro(h | h | h) <;> cases h)) hg1);have HC1:=hid hc1;clear hc1 hg1;go_wp2_with fail;go_ret2;exact⟨Hb.out,nx,rfl,hg,V,_,HR1.out,HE1.out,c,z,rfl,hbc,fun y h=>(by injection h),HC1.out⟩
end
section
open Go.RowKit
attribute [local go_sem] y9
theorem zza {W:World} {base g:Nat} {L:zc} {nx V cu:Value} {e h:Nat} {v:Vec} (hV:OwnV W base V v) (hR:Row W g 347 (pkC L nx V e h cu)) (hg:base≤g) (r:Nat) (hb:v.length+1≤1000000000000):
 ∃ge cp w',(Builtin.append_ #[125,125] 125 #[V,.slice (some ⟨W.heap.size,0,none⟩) 1 1]).run Tryz.prog (W.alloc (.cells #[.int .u64 ((r:Nat):Int),.int .u64 0,.slice none 0 0] 137))=.ok (.slice (some ⟨ge,0,none⟩) (v.length+1) cp) w'∧
  w'.cell? ⟨g,7,none⟩=some V∧w'.frozen? ⟨g,7,none⟩=false∧BelT base W (w'.setCell ⟨g,7,none⟩ (.slice (some ⟨ge,0,none⟩) (v.length+1) cp))∧Row (w'.setCell ⟨g,7,none⟩ (.slice (some ⟨ge,0,none⟩) (v.length+1) cp)) g 347 (pkC L nx (.slice (some ⟨ge,0,none⟩) (v.length+1) cp) e h cu)∧EntO (w'.setCell ⟨g,7,none⟩ (.slice (some ⟨ge,0,none⟩) (v.length+1) cp)) base (.slice (some ⟨ge,0,none⟩) (v.length+1) cp) v r 0 []:=by
 have hal:Below W.heap.size W (W.alloc (.cells #[.int .u64 ((r:Nat):Int),.int .u64 0,.slice none 0 0] 137)):=(Below.refl _ _).alloc (Nat.le_refl _) _;have hbW:base≤W.heap.size:=by have:=hR.lt;omega
 obtain⟨V',w',hrun,hE,hgr,hk⟩:=(hV.below hal).open r (some ⟨W.heap.size,0,none⟩) 1 (yq (zh W (.cells #[.int .u64 ((r:Nat):Int),.int .u64 0,.slice none 0 0] 137) _ rfl) rfl rfl) hb (Nat.le_trans hbW hal.size)
 obtain⟨ge,cp,rfl,-⟩:=hE.at
 have hR1:=hR.later hal;obtain⟨ss,ho,-⟩:=hV.below hal;have hT:=BelT.to hal hbW;have hR2:Row w' g 347 (pkC L nx V e h cu):=hR1.grown hgr fun e'=>hR1.ne_own ho (by decide) g e'.symm rfl
 refine⟨ge,cp,w',hrun,hR2.cell 7 rfl,hR2.fz 7,?_,hR2.set 7 _,hE.grown (hR2.notT (by rintro(h | h | h) <;> cases h)) (qh _ _ _ _)⟩;exact(hT.grown hgr (Nat.le_trans hbW hal.size) hk fun k e=>(OkR.own ho zsd k e).back hT).setCell (p:=⟨g,7,none⟩) hg _ (hR.okR zlq)
theorem ya8 (x:Nat):zbu [] x=some x:=rfl
theorem ya9 {v:Vec} (h:0<v.length) (x:Nat):zbu v x=if (zg v (v.length - 1)).1+1+x<18446744073709551616 then some ((zg v (v.length - 1)).1+1+x) else none:=by
 unfold zbu;have hne:v≠[]:=fun e=>by rw[e] at h;cases h
 rw[List.getLast?_eq_getElem?,List.getElem?_eq_getElem (by omega),j0 (by omega)]
set_option maxRecDepth 20000 in
theorem yba (base g:Nat) (L:zc) (nx:Value) (s:PS) (x rest:Nat) (w:World) (h:PkR w base g L nx s) (ht:s.tag=1) (hx:x<18446744073709551616) (hlv:LtV s.v) (hl:s.v.length+1≤1000000000000):
 Calls Tryz.prog 297 #[.pointer (some ⟨g,0,none⟩),.int .u64 (x:Int),.int .i64 (rest:Int)] w (PkS w base g L (jm L.2.2.1 L.2.2.2.1 s x rest)):=by
 obtain⟨tag,v,rep,mx,hh,ents,hls,lo⟩:=s;simp only at ht hl hlv;subst ht;obtain⟨hg,V,cu,hR,hB⟩:=h;have hV:OwnV w base V v:=hB;have hps:jm L.2.2.1 L.2.2.2.1 ⟨1,v,rep,mx,hh,ents,hls,lo⟩ x rest=match zbu v x with | none=>.error 8 | some r=>.ok ⟨2,v,r,mx,hh,ents,hls,lo⟩:=rfl
 rw[hps];clear hps hB;by_cases h0:v=[]
 · subst h0;obtain⟨a,c,rfl,-⟩:=hV.ents hlv;obtain⟨ge,cp,w',hrun,c7,f7,hb,hR',hE⟩:=zza hV hR hg x hl;have q7:=hR.cell 7 rfl;rw[ya8];have Hrun:=hid hrun;have HR:=hid hR';have HE:=hid hE;have Hb:=hid hb;clear hV hR hrun hR' hE hb hl hx hlv;simp only[List.length_nil] at*;go_enter Tryz.func297,Tryz.ntmps297;go_wp2_with (at_builtin;refine qf _ _ 125 rfl rfl _ _ rfl rfl _ _ Hrun.out ?_);go_ret2;exact⟨Hb.out,nx,rfl,hg,_,cu,HR.out,HE.out⟩
 · have hpos:0<v.length:=List.length_pos_iff.2 h0;obtain⟨a,c,rfl,hEn⟩:=hV.ents hlv;obtain⟨b,o,rfl,hcells⟩:=hEn.cells hpos;have hi:v.length - 1<v.length:=by omega
   have qe:=(hcells _ hi).1;have hrep:=(hlv _ (vq hi)).rep;rw[ya9 hpos];generalize (zg v (v.length - 1)).1=y at*;have q7:=hR.cell 7 rfl
   have h64:∀z∈[y,1,x],z<18446744073709551616:=fun z hz=>by
    simp only[List.mem_cons,List.not_mem_nil,or_false] at hz;rcases hz with rfl | rfl | rfl <;> first | assumption | omega
   have H64:=hid h64;have hsum:[y,1,x].sum=y+1+x:=by simp only[List.sum_cons,List.sum_nil,Nat.add_zero,Nat.add_assoc]
   obtain⟨n,hn⟩:∃n,n=v.length:=⟨_,rfl⟩;have Hn:=hid hn;have HV:=hid hV;have HR:=hid hR;have Hl:=hid hl;have hn1:1≤n∧n≤1000000000000:=by omega
   rw[←hn] at qe q7;clear hcells hEn hi hrep h64 h0 hpos hx hlv hV hR hl hn;have e1:(n:Int) - 1=((n - 1:Nat):Int):=by omega
   by_cases hc:y+1+x<18446744073709551616
   · have hv:zag [y,1,x].sum=.tuple #[.int .u64 ((y+1+x:Nat):Int),.bool true]:=by rw[hsum];exact zlo hc
     have HS:=hid (fun W hW=>zj5 [y,1,x] W w.heap.size 3 hW rfl H64.out (by omega) hv);rw[if_pos hc];clear hc hsum hv;generalize y+1+x=S at*;go_enter Tryz.func297,Tryz.ntmps297;go_wp2_with fail;refine(HS.out _ (by exact zh w _ _ rfl)).mono ?_;rintro e w1 ⟨rfl,hb1⟩;have hb2:Below w.heap.size w w1:=((Below.refl _ _).alloc (Nat.le_refl _) _).trans (hb1.mono (by simp));obtain⟨ge,cp,w',hrun,c7,f7,hb,hR',hE⟩:=zza (HV.out.below hb2) (HR.out.later hb2) hg S Hl.out;have p7:=(HR.out.later hb2).cell 7 rfl;rw[←Hn.out] at hrun c7 hb hR' hE p7;have Hrun:=hid hrun;have HR':=hid hR';have HE:=hid hE;have Hb:=hid ((BelT.to hb2 (show base≤w.heap.size by have:=HR.out.lt;omega)).trans hb);clear hrun hR' hE hb hb1 hb2 qe q7 HR HV;go_wp2_with (at_builtin;refine qf _ _ 125 rfl rfl _ _ rfl rfl _ _ Hrun.out ?_);go_ret2;exact⟨Hb.out,nx,rfl,hg,_,cu,HR'.out,HE.out⟩
   · have hv:zag [y,1,x].sum=.tuple #[.int .u64 0,.bool false]:=by rw[hsum];exact zlp hc
     have HS:=hid (fun W hW=>zj5 [y,1,x] W w.heap.size 3 hW rfl H64.out (by omega) hv);rw[if_neg hc];clear hc hsum hv;go_enter Tryz.func297,Tryz.ntmps297;go_wp2_with fail;refine(HS.out _ (by exact zh w _ _ rfl)).mono ?_;rintro e w1 ⟨rfl,hb1⟩;have hb2:Below w.heap.size w w1:=((Below.refl _ _).alloc (Nat.le_refl _) _).trans (hb1.mono (by simp));have HR':=hid (HR.out.later hb2);have Hb:=hid (BelT.to hb2 (show base≤w.heap.size by have:=HR.out.lt;omega));clear hb1 hb2 qe q7 HR HV;go_wp2_with fail;go_ret2;exact⟨Hb.out,rfl,_,HR'.out,rfl⟩
end
section
open Go.RowKit
attribute [local go_sem] y9
theorem ybb (L:zc) (w:World):Calls Tryz.prog 206 #[lmV L] w fun e w'=>e=.returned (.pointer (some ⟨w.heap.size+1,0,none⟩))∧PkR w' w.heap.size (w.heap.size+1) L (pkF (w.heap.size+1) 0) ps0∧Below w.heap.size w w':=by
 unfold lmV;go_enter Tryz.func206,Tryz.ntmps206;go_wp2_with fail;go_ret;refine⟨rfl,⟨by omega,.slice none 0 0,.pointer none,?_,rfl⟩,((Below.refl _ _).alloc (Nat.le_refl _) _).alloc (by simp) _⟩;have:=y7 (w.alloc (.cells #[.int .i64 L.1,.int .i64 L.2.1,.int .i64 L.2.2.1,.int .i64 L.2.2.2.1,.int .i64 L.2.2.2.2] 24)) 347 (pkC L (pkF (w.heap.size+1) 0) (.slice none 0 0) 0 0 (.pointer none));rw[World.size_alloc] at this;exact this
theorem zom (g ge n cap:Nat) (w:World) (hq:w.cell? ⟨g,7,none⟩=some (.slice (some ⟨ge,0,none⟩) (n+1) cap)) (hn:n≤1000000000000):
 Calls Tryz.prog 336 #[.pointer (some ⟨g,0,none⟩)] w fun e w'=>e=.returned (.pointer (some ⟨ge,n*3,none⟩))∧∃k,w'=w.drewN k:=by
 go_enter Tryz.func336,Tryz.ntmps336;go_wp2;go_quiet (fail);go_wp2;go_ret;exact⟨rfl,_,rfl⟩
set_option maxRecDepth 20000 in
theorem ybc (base g:Nat) (L:zc) (nx:Value) (s:PS) (x rest:Nat) (w:World) (h:PkR w base g L nx s) (ht:s.tag=0) (hL:LimsI L) (hx:x<18446744073709551616) (hr:rest<9223372036854775808):
 Calls Tryz.prog 258 #[.pointer (some ⟨g,0,none⟩),.int .u64 (x:Int),.int .i64 (rest:Int)] w (PkS w base g L (jm L.2.2.1 L.2.2.2.1 s x rest)):=by
 obtain⟨tag,v,rep,mx,hh,ents,hls,lo⟩:=s;simp only at ht;subst ht;obtain⟨hg,V,cu,hR,hB⟩:=h;have hV:V=.slice none 0 0:=hB;subst hV;have HL:=hid (zys x L.2.2.1 rest w hx hL.c hr);have q2:=hR.cell 2 rfl;have q8:=hR.cell 8 rfl;have z8:=hR.fz 8;have HR:=hid hR;have Hg:=hid (show base≤w.heap.size by have:=hR.lt;omega);have HoG:=hid (hR.okR zlq);clear hB;by_cases hc:ql x L.2.2.1 rest=0
 · rw[hc] at HL;have Hc:=hid hc;clear hc hx hr;by_cases hx0:x=0
   · subst hx0
     have Hp:=hid (show jm L.2.2.1 L.2.2.2.1 ⟨0,v,rep,mx,hh,ents,hls,lo⟩ 0 rest=.error 9 from by
      show (if ql 0 L.2.2.1 rest≠0 then _ else _)=_;rw[if_neg (fun h=>h Hc.out),if_pos rfl])
     rw[Hp.out];clear hR;go_enter Tryz.func258,Tryz.ntmps258;go_wp2_with fail;refine HL.out.mono ?_;rintro e w' ⟨rfl,rfl⟩;simp only[zj6,if_true];go_wp2_with fail;go_ret2;exact⟨BelT.refl _ _,rfl,_,HR.out,rfl⟩
   · have Hp:=hid (show jm L.2.2.1 L.2.2.2.1 ⟨0,v,rep,mx,hh,ents,hls,lo⟩ x rest=.ok ⟨1,[],rep,mx,hh,x,hls,lo⟩ from by
      show (if ql x L.2.2.1 rest≠0 then _ else _)=_;rw[if_neg (fun h=>h Hc.out),if_neg hx0])
     rw[Hp.out];have HS:=hid (show Row (w.setCell ⟨g,8,none⟩ (.int .u64 (x:Int))) g 347 (pkC L nx (.slice none 0 0) x hls cu) from hR.set 8 _);clear hR;go_enter Tryz.func258,Tryz.ntmps258;go_wp2_with fail;refine HL.out.mono ?_;rintro e w' ⟨rfl,rfl⟩;simp only[zj6,if_true];go_wp2_with fail;go_ret2;exact⟨(BelT.refl _ _).setCell (p:=⟨g,8,none⟩) hg _ HoG.out,nx,rfl,hg,_,cu,HS.out,zjz _ _⟩
 · have Hp:=hid (show jm L.2.2.1 L.2.2.2.1 ⟨0,v,rep,mx,hh,ents,hls,lo⟩ x rest=.error (ql x L.2.2.1 rest) from by
    show (if ql x L.2.2.1 rest≠0 then _ else _)=_;rw[if_pos hc])
   rw[Hp.out];have hcv:zj6 (ql x L.2.2.1 rest)=.iface 27 (.int .i64 ((ql x L.2.2.1 rest:Nat):Int)):=if_neg hc;rw[hcv] at HL;clear hc hx hr hR hcv;generalize ql x L.2.2.1 rest=c at*;go_enter Tryz.func258,Tryz.ntmps258;go_wp2_with fail;refine HL.out.mono ?_;rintro e w' ⟨rfl,rfl⟩;go_wp2_with fail;go_ret2;exact⟨BelT.refl _ _,rfl,_,HR.out,rfl⟩
set_option maxRecDepth 20000 in
theorem ybd (base g:Nat) (L:zc) (nx:Value) (s:PS) (x rest:Nat) (w:World) (h:PkR w base g L nx s) (ht:s.tag=2) (hl:s.v.length≤1000000000000):
 Calls Tryz.prog 328 #[.pointer (some ⟨g,0,none⟩),.int .u64 (x:Int),.int .i64 (rest:Int)] w (PkS w base g L (jm L.2.2.1 L.2.2.2.1 s x rest)):=by
 obtain⟨tag,v,rep,mx,hh,ents,hls,lo⟩:=s;simp only at ht hl;subst ht;obtain⟨hg,V,cu,hR,hB⟩:=h;have hE:EntO w base V v rep 0 []:=hB;obtain⟨ge,cap,rfl,hge,hgl,⟨C,fr,hrow⟩,c0,c1,hf,-⟩:=hE.at
 have HE:=hid (fun k=>(hE.later (z7 (Below.refl _ _) k)).max x);have q7:=hR.cell 7 rfl;have HP:=hid (zom g ge v.length cap w q7 hl);have HR:=hid hR;have HoE:=hid (OkR.cells hrow zsd)
 have Hne:=hid (show g≠ge from fun e=>by
  subst e;unfold Row at hR;rw[hrow] at hR;injection hR with hR;injection hR with _ hR _;cases hR)
 have Hp:=hid (show jm L.2.2.1 L.2.2.2.1 ⟨2,v,rep,mx,hh,ents,hls,lo⟩ x rest=.ok ⟨3,v,rep,x,hh,ents,hls,lo⟩ from rfl);rw[Hp.out];have c1':∀k,(w.drewN k).cell? ⟨ge,v.length*3+1,none⟩=some (.int .u64 0):=fun k=>c1
 have f1:∀k,(w.drewN k).frozen? ⟨ge,v.length*3+1,none⟩=false:=fun k=>hf _
 clear hE hB hrow c0 c1 hf hR q7;go_enter Tryz.func328,Tryz.ntmps328;go_wp2_with fail;refine HP.out.mono ?_;rintro e w' ⟨rfl,k,rfl⟩;go_wp2_with fail;go_ret2;exact⟨(show BelT base w (w.drewN k) from zfa (BelT.refl _ _) k).setCell (p:=⟨ge,v.length*3+1,none⟩) hge _ HoE.out,nx,rfl,hg,_,cu,(show Row (w.drewN k) _ _ _ from HR.out).other (a:=⟨ge,v.length*3+1,none⟩) Hne.out _,HE.out k⟩
end
