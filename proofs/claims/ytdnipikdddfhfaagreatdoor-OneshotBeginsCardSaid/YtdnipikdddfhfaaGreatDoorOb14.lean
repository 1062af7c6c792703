/- Part 14. -/
import Derived.Test.YtdnipikdddfhfaaGreatDoorOb13
set_option linter.unusedVariables false
set_option maxHeartbeats 16000000
namespace Go.Proofs.YtdnipikdddfhfaaGreatDoor
open Lib (hid)
section
def Fwd (T:zg):Prop:=∀p x q,T p=.ok (x,q)→p<q
def okC (n:Nat) (lim:Int):Prop:=(n:Int)≤lim∨n=0
instance (n:Nat) (lim:Int):Decidable (okC n lim):=by unfold okC;infer_instance
theorem zba {T:zg} {p x q:Nat} (h:T p=.ok (x,q)):nmP T p=.ok (x,q):=by unfold nmP;rw[h]
theorem zru {x rest:Nat} {lim:Int} (h1:okC x lim) (h2:x≤rest):zl x lim rest=0:=by
 unfold zl;rw[if_neg (by rintro⟨h3,h4⟩;rcases h1 with h | h <;> omega),if_neg (by omega)]
theorem zrv {x rest:Nat} {lim:Int} (h1:¬okC x lim):zl x lim rest=7:=by
 unfold zl okC at*;rw[if_pos ⟨by omega,fun h=>h1 (.inr h)⟩]
theorem zbb {T:zg} {E p x q:Nat} {lim:Int} (h:T p=.ok (x,q)) (h1:okC x lim) (h2:q+x≤E):yz T E lim p=.ok (x,q):=by
 unfold yz;rw[zba h,yh,zru h1 (by omega),if_pos rfl]
theorem zec {T:zg} {E p x q:Nat} {lim:Int} (h:T p=.ok (x,q)) (h1:¬okC x lim):yz T E lim p=.error (7,p):=by
 unfold yz;rw[zba h,yh,zrv h1,if_neg (by omega)]
theorem zcz {α:Type} {l:List α} {d:Nat} (hd:d<l.length):(l.take (d+1)).getLast?=some l[d]:=by
 rw[List.take_succ_eq_append_getElem hd];exact List.getLast?_concat
theorem zrw {T:zg} {a b p q:Nat} (h:zy T p [a,b] q):∃r,T p=.ok (a,r)∧T r=.ok (b,q):=by
 obtain⟨r,h1,s,h2,rfl⟩:=h;exact⟨r,h1,h2⟩
theorem zrx {l:List Iv} {a d:Nat} (hD:vv l a) (hlt:yg l) (hd:d<l.length):loP (yk (l.take d)) a (qn l a d)=some (zb l d).1:=by
 unfold yk qn
 cases d with
 | zero=>rw[if_pos rfl];simp[loP]
 | succ n=>
  have h1:=(hD (n+1) hd).2 (by omega);have h2:=hlt _ (zad hd);rw[if_neg (by omega),zcz (by omega)];rw[show n+1 - 1=n by omega,yr (show n<l.length by omega)] at*;simp only[Option.map_some,loP];rw[if_pos (by omega)];congr 1;omega
theorem zjs {T:zg} {l:List Iv} {a d p q:Nat} (hD:vv l a) (hlt:yg l) (hd:d<l.length) (h:zy T p [qn l a d,(zb l d).2 - (zb l d).1] q):∃w,ivP T (yk (l.take d)) a p=.ok ((zb l d,w),q):=by
 obtain⟨r,h1,h2⟩:=zrw h;refine⟨r,?_⟩;have g1:=(hD d hd).1;have g2:=hlt _ (zad hd);unfold ivP;rw[zba h1,yh,zrx hD hlt hd];simp only[hiP];rw[zba h2,yh,show (zb l d).1+((zb l d).2 - (zb l d).1)=(zb l d).2 by omega,if_pos g2.2]
theorem zjt {T:zg} {mx:Nat} {h:List Iv} (hD:vv h 1) (hlt:yg h) (hm:∀s∈h,s.2<mx):∀d,d≤h.length→∀{p r:Nat},zy T p (qr h 1 d) r→∀k,qs T mx (d+k) [] p=qs T mx k (h.take d) r
 | 0,_,p,r,hr,k=>by cases hr;rw[List.take_zero,Nat.zero_add]
 | d+1,hd,p,r,hr,k=>by
   rw[qr] at hr;obtain⟨s,h1,h2⟩:=qv.1 hr;obtain⟨w,h3⟩:=zjs hD hlt hd h2;rw[show d+1+k=d+(k+1) by omega,zjt hD hlt hm d (by omega) h1 (k+1),qs,h3,yh];unfold kp;rw[if_neg (by have:=hm _ (zad (show d<h.length from hd));simp only;omega),List.take_succ_eq_append_getElem hd,yr hd]
theorem zju {T:zg} {E:Nat} {lim:Int} (hT:Fwd T) {v:Vec} (hv:CanV v) (hl:LtV v) (hm:∀e∈v,∀s∈e.2.2,s.2<e.2.1) {d p q:Nat} (hd:d<v.length) (h:zy T p (vw v d) q) (hq:q≤E):
 (okC (zf v d).2.2.length lim→zaq T E lim (v.take d) p=.ok (zf v d,q))∧(¬okC (zf v d).2.2.length lim→∃w,zaq T E lim (v.take d) p=.error (7,w)):=by
 have hmem:=zcn hd;obtain⟨r3,⟨r1,t1,r2,t2,r2',t3,rfl⟩,h4⟩:=qv.1 h
 have hrep:jk (v.take d) (zao v d)=some (zf v d).1:=by
  unfold jk zao
  cases d with
  | zero=>rw[if_pos rfl];simp
  | succ n=>
   have h1:=List.pairwise_iff_getElem.1 hv.asc n (n+1) (by omega) hd (by omega);have h2:=(hl _ hmem).rep;unfold zci at h1;rw[if_neg (by omega),zcz (by omega)];rw[jq hd] at h2 ⊢;rw[show n+1 - 1=n by omega,jq (show n<v.length by omega)];simp only;rw[if_pos (by omega)];congr 1;omega
 have hcan:=hv.ent _ hmem;have hlen:=k8 hT h4;have hdl:(zd1 (zf v d).2.2 1).length=2*(zf v d).2.2.length:=zim _ _ _;have hh:=zjt (T:=T) (mx:=(zf v d).2.1) (zpx hcan.good) (hl _ hmem).holes (hm _ hmem) (zf v d).2.2.length (Nat.le_refl _) h4 0;rw[List.take_length,Nat.add_zero,qs] at hh;unfold zaq;rw[zba t1,yh,hrep];simp only[zbt];rw[zba t2,yh];unfold zbs;constructor
 · intro hc;rw[zbb t3 hc (by omega),yh,hh,yh]
 · intro hc;exact⟨r2,by rw[zec t3 hc,vx]⟩
theorem zjv {v:Vec} (hv:CanV v):∀e∈v,∀s∈e.2.2,s.2<e.2.1:=fun e he s hs=>by
 have h:=hv.ent e he;have h1:=h.below s hs;rcases Nat.lt_or_ge s.2 e.2.1 with h2 | h2
 · exact h2
 · have h3:=h.top;have h4:mem e.2.2 e.2.1=true:=mem_iff.2 ⟨s,hs,by have:=h.good.ok s hs;omega,by omega⟩;rw[h3] at h4;cases h4
theorem zf4 {T:zg} {E:Nat} {lim:Int} (hT:Fwd T) {v:Vec} (hv:CanV v) (hl:LtV v):∀d,d≤v.length→∀{p r:Nat},zy T p (vj v d) r→r≤E→
 ∃r0,T p=.ok (v.length,r0)∧r0+d≤r∧∀k,(∀i,i<d→okC (zf v i).2.2.length lim)→yv T E lim (d+k) [] r0=yv T E lim k (v.take d) r
 | 0,_,p,r,hr,hE=>by
   obtain⟨r0,h1,rfl⟩:=hr
   exact⟨r0,h1,by omega,fun k _=>by rw[List.take_zero,Nat.zero_add]⟩
 | d+1,hd,p,r,hr,hE=>by
   rw[vj] at hr;obtain⟨s,h1,h2⟩:=qv.1 hr;have h3:=k8 hT h2;have h4:3≤(vw v d).length:=by unfold vw;simp
   obtain⟨r0,h5,h6,h7⟩:=zf4 hT hv hl d (by omega) h1 (show s≤E by omega);refine⟨r0,h5,by omega,fun k hk=>?_⟩;rw[show d+1+k=d+(k+1) by omega,h7 (k+1) (fun i hi=>hk i (by omega)),yv,(zju hT hv hl (zjv hv) hd h2 hE).1 (hk d (by omega)),yh,List.take_succ_eq_append_getElem hd,jq hd]
theorem zjw {P:Nat→Prop} [DecidablePred P] {n:Nat} (h:¬∀i,i<n→P i):∃i,i<n∧¬P i∧∀j,j<i→P j:=by
 induction n with
 | zero=>exact absurd (fun i hi=>by omega) h
 | succ n ih=>
  by_cases h1:∀i,i<n→P i
  · refine⟨n,by omega,fun h2=>h fun i hi=>?_,h1⟩;rcases Nat.lt_or_ge i n with h3 | h3
    · exact h1 i h3
    · rwa [show i=n by omega]
  · obtain⟨i,hi,h2,h3⟩:=ih h1;exact⟨i,by omega,h2,h3⟩
def okV (le lh:Int) (v:Vec):Prop:=okC v.length le∧∀i,i<v.length→okC (zf v i).2.2.length lh
theorem zf5 (v:Vec) (i:Nat):∀d,i≤d→∃R,vj v d=vj v i++R
 | 0,h=>⟨[],by rw[show i=0 by omega,List.append_nil]⟩
 | d+1,h=>by
   rcases Nat.lt_or_ge d i with h1 | h1
   · exact⟨[],by rw[show i=d+1 by omega,List.append_nil]⟩
   · obtain⟨R,e⟩:=zf5 v i d h1;exact⟨R++vw v d,by rw[vj,e,List.append_assoc]⟩
theorem zjx {T:zg} {E:Nat} {le lh:Int} (hT:Fwd T) {v:Vec} (hv:CanV v) (hl:LtV v) (hne:v≠[]) {p r:Nat} (hr:zy T p (km v) r) (hE:r≤E):
 (okV le lh v→vy T E le lh p=.ok (v,r))∧(¬okV le lh v→∃w,vy T E le lh p=.error (7,w)):=by
 obtain⟨r0,h1,h2,h3⟩:=zf4 (E:=E) (lim:=lh) hT hv hl v.length (Nat.le_refl _) hr hE;have h0:v.length≠0:=fun h=>hne (List.length_eq_zero_iff.1 h)
 constructor
 · rintro⟨k1,k2⟩;have:=h3 0 k2;rw[Nat.add_zero,List.take_length,yv] at this;unfold vy;rw[zbb h1 k1 (by omega),yh,if_neg h0,this]
 · intro hn;by_cases k1:okC v.length le
   · obtain⟨i,hi,hb,hlt⟩:=zjw (P:=fun i=>okC (zf v i).2.2.length lh) (n:=v.length) (fun h=>hn ⟨k1,h⟩);obtain⟨R,e⟩:=zf5 v (i+1) v.length hi;have hr':=hr;unfold km at hr';rw[e] at hr';obtain⟨s,g1,g2⟩:=qv.1 hr';have g3:=k8 hT g2;rw[vj] at g1;obtain⟨t,g4,g5⟩:=qv.1 g1;have g6:=k8 hT g5;obtain⟨r0',h1',-,h3'⟩:=zf4 (E:=E) (lim:=lh) hT hv hl i (by omega) g4 (by omega);obtain rfl:r0'=r0:=by rw[h1] at h1';injection h1' with h;injection h with _ h;exact h.symm
     obtain⟨w,hw⟩:=(zju (E:=E) hT hv hl (zjv hv) hi g5 (by omega)).2 hb;have:=h3' (v.length - i) hlt;rw[show i+(v.length - i)=v.length by omega,show v.length - i=(v.length - i - 1)+1 by omega,yv,hw,vx] at this
     exact⟨w,by
      unfold vy;rw[zbb h1 k1 (by omega),yh,if_neg h0,this]⟩
   · exact⟨p,by
      unfold vy;rw[zec h1 k1,vx]⟩
end
section
open Go.RowKit
def SegB (wz w:World) (base:Nat) (K:Value) (vs:List Vec) (l:List Iv) (ix:List Nat) (all:Value) (la:List Iv):Prop:=
 ∃X Y,base≤wz.heap.size∧Steady 0 ky wz w∧(∀i,i<vs.length→EnSl wz 0 (Y i) (yt vs i))∧w.ownsRow base 97 2 K vs.length (je vs.length X Y)∧
  (∀i,i<vs.length→w.ownsRow wz.heap.size 89 2 (X i) (itN l ix i).length (ivC (itN l ix i)))∧(∀i,i<vs.length→∀j,j<vs.length→i≠j→∀b,(X i).ownBlock=some b→(X j).ownBlock≠some b)∧
  w.ownsRow wz.heap.size 89 2 all la.length (ivC la)∧∀i,i<vs.length→∀b,(X i).ownBlock=some b→all.ownBlock≠some b
theorem SegB.seg {wz w:World} {base:Nat} {K all:Value} {vs:List Vec} {l la:List Iv} {ix:List Nat} (h:SegB wz w base K vs l ix all la):SegM w base K vs l ix:=by
 obtain⟨X,Y,h1,h2,h3,h4,h5,h6,-,-⟩:=h;exact⟨wz,X,Y,h1,h2,h3,h4,h5,h6⟩
theorem SegB.own {wz w:World} {base:Nat} {K all:Value} {vs:List Vec} {l la:List Iv} {ix:List Nat} (h:SegB wz w base K vs l ix all la):w.ownsRow base 89 2 all la.length (ivC la):=by
 obtain⟨X,Y,h1,h2,h3,h4,h5,h6,h7,h8⟩:=h;exact j3 h7 h1
theorem SegB.steady {wz w w':World} {base:Nat} {K all:Value} {vs:List Vec} {l la:List Iv} {ix:List Nat} (h:SegB wz w base K vs l ix all la) (hs:Steady 0 qh w w'):SegB wz w' base K vs l ix all la:=by
 obtain⟨X,Y,h1,h2,h3,h4,h5,h6,h7,h8⟩:=h;exact⟨X,Y,h1,h2.trans (hs.weak fun T hT=>hT.imp id .inl),h3,za6 h4 hs (.inr (.inr rfl)),fun i hi=>za6 (h5 i hi) hs (.inl rfl),h6,za6 h7 hs (.inl rfl),h8⟩
theorem SegB.grown {wz w w':World} {base g:Nat} {K all:Value} {vs:List Vec} {l la:List Iv} {ix:List Nat} (h:SegB wz w base K vs l ix all la) (hN:NotT w g) (hg:w.grownBy w' (some g)):SegB wz w' base K vs l ix all la:=h.steady (zbu hN (Nat.zero_le _) hg)
theorem SegB.later {wz w w':World} {base:Nat} {K all:Value} {vs:List Vec} {l la:List Iv} {ix:List Nat} (h:SegB wz w base K vs l ix all la) (hb:Below w.heap.size w w'):SegB wz w' base K vs l ix all la:=h.steady (.of_below hb)
theorem zry {w:World} {base sz n:Nat} {e:TypeId} {v:Value} {xs:List Value} (h:w.ownsRow base e sz v n xs):∀k,v.ownBlock=some k→∃C fr,w.heap[k]?=some (.cells C e fr):=fun k hk=>by
 rcases h.2 with ⟨e,_⟩ | ⟨b,cap',cur,e,_,hh,_⟩
 · rw[e] at hk;cases hk
 · have e':b=k:=by rw[e] at hk;simpa [Value.ownBlock] using hk
   subst e';exact⟨_,_,hh⟩
theorem SegB.more {wz w:World} {base:Nat} {K all:Value} {vs:List Vec} {l la:List Iv} {ix:List Nat} (h:SegB wz w base K vs l ix all la) (s:Iv) (A:Option Addr) (c:Nat) (hr:Rd w 2 A 1 (ivC [s])) (hb:la.length+1≤1000000000000):
 ∃S' w',(Builtin.append_ #[91,91] 91 #[all,.slice A 1 c]).run Tryz.prog w=.ok S' w'∧w.grownBy w' all.ownBlock∧(∀k,all.ownBlock=some k→base≤k∧∃C fr,w.heap[k]?=some (.cells C 89 fr))∧SegB wz w' base K vs l ix S' (la++[s]):=by
 obtain⟨X,Y,h1,h2,h3,h4,h5,h6,h7,h8⟩:=h;obtain⟨S',w',hrun,ho,hg,hat⟩:=zd5 wz.heap.size all _ _ h7 A c s hr (by omega) h2.size;have keep:∀k,k<w.heap.size→all.ownBlock≠some k→w'.heap[k]?=w.heap[k]?:=fun k hk hne=>hg.block k hk fun e=>hne e.symm
 refine⟨S',w',hrun,hg,fun k hk=>⟨Nat.le_trans h1 (h7.lt k hk).1,zry h7 k hk⟩,X,Y,h1,⟨Nat.le_trans h2.size hg.size,fun k hk hp=>?_⟩,h3,?_,fun i hi=>?_,h6,by rw[List.length_append];exact ho,fun i hi b hx hy=>?_⟩
 · rw[keep k (Nat.lt_of_lt_of_le hk h2.size) fun e=>by have:=(h7.lt k e).1;omega];exact h2.row k hk hp
 · exact yu h4 fun k hk=>keep k (h4.lt k hk).2 fun e=>kd h4 h7 (by decide) k hk e
 · exact yu (h5 i hi) fun k hk=>keep k ((h5 i hi).lt k hk).2 (h8 i hi k hk)
 · rcases hat b hy with h' | h'
   · exact h8 i hi b hx h'
   · have:=((h5 i hi).lt b hx).2;omega
theorem SegB.put {wz w:World} {base g cap:Nat} {all:Value} {la:List Iv} {vs:List Vec} {l:List Iv} {ix:List Nat} (h:SegB wz w base (.slice (some ⟨g,0,none⟩) vs.length cap) vs l ix all la) (hli:ix.length=l.length) {i:Nat} (hi:i<vs.length) {S:Value} (hS:w.cell? ⟨g,i*2,none⟩=some S) (s:Iv)
 (W:World) (hW:Below w.heap.size w W) (A:Option Addr) (c:Nat) (hr:Rd W 2 A 1 (ivC [s])) (hb:l.length+1≤1000000000000):
 ∃S' w',(Builtin.append_ #[91,91] 91 #[S,.slice A 1 c]).run Tryz.prog W=.ok S' w'∧(∃gS m cS,S'=.slice (some ⟨gS,0,none⟩) m cS)∧W.grownBy w' S.ownBlock∧(∀k,S.ownBlock=some k→base≤k∧∃C fr,W.heap[k]?=some (.cells C 89 fr))∧w'.cell? ⟨g,i*2,none⟩=some S∧w'.frozen? ⟨g,i*2,none⟩=false∧
  ∀w2,w'.grownBy w2 none→SegB wz (w2.setCell ⟨g,i*2,none⟩ S') base (.slice (some ⟨g,0,none⟩) vs.length cap) vs (l++[s]) (ix++[i]) all la:=by
 obtain⟨X,Y,h1,h2,h3,h4,h5,h6,h7,h8⟩:=h
 have e0:X i=S:=by
  have c1:=h4.cells (g:=g) rfl _ _ (zap hi X Y).1;rw[ye,Nat.zero_add,hS] at c1;injection c1 with c1;exact c1.symm
 subst e0;have k4:=zx h4 hW;have k5:=fun j hj=>zx (h5 j hj) hW
 have hz:wz.heap.size≤W.heap.size:=Nat.le_trans h2.size hW.size;have hit:(itN l ix i).length≤l.length:=zfq _ _ _ _;obtain⟨S',w',hrun,ho,hg,hat⟩:=zd5 wz.heap.size (X i) _ _ (k5 i hi) A c s hr (by omega) hz
 have hty:∀k,(X i).ownBlock=some k→∃C fr,W.heap[k]?=some (.cells C 89 fr):=fun k hk=>by
  rcases(k5 i hi).2 with ⟨e,_⟩ | ⟨b,cap',cur,e,_,hh,_⟩
  · rw[e] at hk;cases hk
  · have e':b=k:=by rw[e] at hk;simpa [Value.ownBlock] using hk
    subst e';exact⟨_,_,hh⟩
 have hne:(X i).ownBlock≠some g:=fun e=>kd k4 (k5 i hi) (by decide) g rfl e
 have e4:w'.ownsRow base 97 2 (.slice (some ⟨g,0,none⟩) vs.length cap) vs.length (je vs.length X Y):=yu k4 fun k hk=>by
  have e:g=k:=by simpa [Value.ownBlock] using hk
  subst e;exact hg.block g (k4.lt g rfl).2 fun e=>hne e.symm
 have hcell:w'.cell? ⟨g,i*2,none⟩=some (X i):=by
  have c1:=e4.cells (g:=g) rfl _ _ (zap hi X Y).1;rwa [ye,Nat.zero_add] at c1
 obtain⟨gS,cS,eS,-⟩:=zan ho (Nat.succ_pos _);refine⟨S',w',hrun,⟨gS,_,cS,eS⟩,hg,fun k hk=>⟨Nat.le_trans h1 ((k5 i hi).lt k hk).1,hty k hk⟩,hcell,e4.frozenAt _,fun w2 hw2=>?_⟩;have f4:=yu (w':=w2) e4 fun k hk=>hw2.block k (e4.lt k hk).2 (by simp)
 have fS:=yu (w':=w2) ho fun k hk=>hw2.block k (ho.lt k hk).2 (by simp)
 obtain⟨p1,p2⟩:=f4.stored (i*2) S'
 have hrow:∃C fr,w2.heap[g]?=some (.cells C 97 fr):=by
  rcases f4.2 with ⟨h',_⟩ | ⟨g',cap',cur,h',_,hh,_⟩
  · cases h'
  · cases h';exact⟨_,_,hh⟩
 obtain⟨C,fr,hrow⟩:=hrow;have hset:∀k,k≠g→k<w2.heap.size→(w2.setCell ⟨g,i*2,none⟩ S').heap[k]?=w2.heap[k]?:=fun k hk hl=>p2.block k hl fun e=>hk (by injection e)
 have hst:Steady 0 ky w2 (w2.setCell ⟨g,i*2,none⟩ S'):=.setCell hrow (Nat.zero_le _) (by rintro(h | h) <;> cases h)
 have hsWw:Steady 0 ky wz w':=⟨Nat.le_trans hz hg.size,fun k hk hp=>by
  have hkW:k<W.heap.size:=Nat.lt_of_lt_of_le hk hz;have hkw:=Nat.lt_of_lt_of_le hk h2.size;rw[hg.block k hkW fun e=>by have:=((k5 i hi).lt k e.symm).1;omega,hW.block k hkw];exact h2.row k hk hp⟩
 refine⟨upd X i S',Y,h1,(hsWw.trans (⟨hw2.size,fun k hk _=>hw2.block k hk (by simp)⟩:Steady 0 ky w' w2)).trans hst,h3,?_,fun j hj=>?_,fun a ha b hb hab x hx=>?_,?_,fun a ha x hx=>?_⟩
 · rw[←zfs hi];exact p1
 · by_cases e:j=i
   · subst e;rw[ke,zd9 hli,if_pos rfl,List.length_append]
     exact yu fS fun k hk=>hset k (fun e=>by
      subst e;exact kd f4 fS (by decide) k rfl hk) (fS.lt k hk).2
   · rw[j8 _ _ e,zd9 hli,if_neg (fun h=>e h.symm),List.append_nil];refine yu (h5 j hj) fun k hk=>?_
     have hl5:=(h5 j hj).lt k hk;have hkW:k<W.heap.size:=Nat.lt_of_lt_of_le hl5.2 hW.size;rw[hset k (fun e'=>by subst e';exact kd h4 (h5 j hj) (by decide) k rfl hk) (Nat.lt_of_lt_of_le hkW (Nat.le_trans hg.size hw2.size)),hw2.block k (Nat.lt_of_lt_of_le hkW hg.size) (by simp),hg.block k hkW (fun e'=>h6 j hj i hi e k hk e'.symm),hW.block k hl5.2]
 · by_cases ea:a=i
   · subst ea;rw[ke] at hx;rw[j8 _ _ (fun e=>hab e.symm)];intro hy;rcases hat x hx with h' | h'
     · exact h6 a ha b hb hab x h' hy
     · have:=((h5 b hb).lt x hy).2;have:=hW.size;omega
   · rw[j8 _ _ ea] at hx;by_cases eb:b=i
     · subst eb;rw[ke];intro hy;rcases hat x hy with h' | h'
       · exact h6 a ha b hb hab x hx h'
       · have:=((h5 a ha).lt x hx).2;have:=hW.size;omega
     · rw[j8 _ _ eb];exact h6 a ha b hb hab x hx
 · have hl7:=fun k hk=>h7.lt k hk
   refine yu h7 fun k hk=>?_
   have hkW:k<W.heap.size:=Nat.lt_of_lt_of_le (h7.lt k hk).2 hW.size;rw[hset k (fun e'=>by subst e';exact kd h4 h7 (by decide) k rfl hk) (Nat.lt_of_lt_of_le hkW (Nat.le_trans hg.size hw2.size)),hw2.block k (Nat.lt_of_lt_of_le hkW hg.size) (by simp),hg.block k hkW (fun e'=>h8 i hi k e'.symm hk),hW.block k (h7.lt k hk).2]
 · by_cases ea:a=i
   · subst ea;rw[ke] at hx;intro hy;rcases hat x hx with h' | h'
     · exact h8 a ha x h' hy
     · have:=(h7.lt x hy).2;have:=hW.size;omega
   · rw[j8 _ _ ea] at hx;exact h8 a ha x hx
end
section
def vb (s:PS):Nat:=match s.tag with
 | 0=>0
 | 1=>(zj s.v).length
 | 2=>(zj s.v).length+1
 | 3=>(zj s.v).length+2
 | 4=>(zj s.v).length+3+2*s.h.length
 | 5=>(zj s.v).length+4+2*s.h.length
 | _=>(zj s.v).length
theorem zjy (v:Vec) (r m:Nat) (h:List Iv):(zj (v++[(r,m,h)])).length=(zj v).length+3+2*h.length:=by
 simp only[zj,List.length_cons,List.flatMap_append,List.length_append,List.flatMap_singleton,ji,zh7];omega
theorem zjz (s:PS) (k:Nat) (h:List Iv):vb (yo s k h)≤(zj s.v).length+3+2*h.length:=by
 unfold yo;split
 · exact Nat.le_refl _
 · split
   · simp only[vb];rw[zjy];exact Nat.le_refl _
   · simp only[vb];rw[zjy];exact Nat.le_refl _
theorem zj0 {le lh:Int} {s s':PS} {x rest:Nat} (ht:s.tag<6) (h:zm le lh s x rest=.ok s'):vb s'≤vb s+1:=by
 obtain⟨tag,v,rep,mx,hh,ents,hls,lo⟩:=s;simp only at ht;rcases(by omega:tag=0∨tag=1∨tag=2∨tag=3∨tag=4∨tag=5) with rfl | rfl | rfl | rfl | rfl | rfl <;> simp only[zm] at h
 · split at h
   · cases h
   · split at h
     · cases h
     · cases h;exact Nat.le_refl _
 · cases hr:jk v x with
   | none=>rw[hr] at h;cases h
   | some r=>rw[hr] at h;cases h;exact Nat.le_refl _
 · cases h;exact Nat.le_refl _
 · split at h
   · cases h
   · cases h;exact zjz _ _ _
 · cases hr:loP (yk hh) 1 x with
   | none=>rw[hr] at h;cases h
   | some r=>rw[hr] at h;cases h;simp only[vb];omega
 · split at h
   · cases h;refine Nat.le_trans (zjz _ _ _) ?_;simp only[vb,List.length_append,List.length_cons,List.length_nil];omega
   · cases h
theorem zj1 {s:PS} (h:s.tag=6):vb s=(zj s.v).length:=by unfold vb;simp only[h]
structure RdJ (s:WS) (p:Nat):Prop where
 fit:WFit s p
 inv:WInv s
 tch:za9 s
 tag:s.tag<4
 num:∀v∈s.vs,(zj v).length≤p
 cost:vb s.inner≤p
theorem RdJ.start:RdJ ws0 0:=⟨zrd,zqz,zre,by decide,fun v h=>(by cases h),Nat.zero_le _⟩
theorem RdJ.mono {s:WS} {p q:Nat} (h:RdJ s p) (hp:p≤q):RdJ s q:=⟨h.fit.mono hp,h.inv,h.tch,h.tag,fun v hv=>Nat.le_trans (h.num v hv) hp,Nat.le_trans h.cost hp⟩
theorem zj2 {E:Nat} {L:za} {s s':WS} {x p q:Nat} (hI:RdJ s p) (hpq:p<q) (h:zr E L s x p q=.ok s'):(∀v∈s'.vs,(zj v).length≤q)∧vb s'.inner≤q:=by
 have hm:=hI.mono (Nat.le_of_lt hpq)
 have fin:∀t:WS,t.vs=s.vs→t.inner=s.inner→∀t',qu E t q=.ok t'→(∀v∈t'.vs,(zj v).length≤q)∧vb t'.inner≤q:=fun t h1 h2 t' h=>by
  unfold qu at h;split at h
  · cases h
  · split at h
    · cases h
    · injection h with h;subst h;exact⟨by show ∀v∈t.vs,_;rw[h1];exact hm.num,by show vb t.inner≤q;rw[h2];exact hm.cost⟩
 have z0:vb ps0≤q:=Nat.zero_le _;by_cases h1:s.tag=1
 · obtain⟨i1,-⟩:=hI.inv.inner h1;unfold zr at h;simp only[h1] at h;split at h
   · cases h
   · rename_i i hi;have hi':=zj0 i1 hi;have hc:=hI.cost;by_cases h6:i.tag=6
     · rw[if_pos h6] at h;rw[zj1 h6] at hi'
       have hvv:∀v∈s.vs++[i.v],(zj v).length≤q:=fun v hv=>by
        rcases List.mem_append.1 hv with h | h
        · exact hm.num v h
        · rw[List.mem_singleton] at h;subst h;omega
       split at h
       · cases h
       · split at h
         · injection h with h;subst h;exact⟨hvv,z0⟩
         · injection h with h;subst h;exact⟨hvv,z0⟩
     · rw[if_neg h6] at h;injection h with h;subst h;exact⟨hm.num,by show vb i≤q;omega⟩
 · unfold zr at h;split at h
   · split at h
     · cases h
     · split at h
       · injection h with h;subst h;exact⟨hm.num,hm.cost⟩
       · injection h with h;subst h;exact⟨hm.num,z0⟩
   · rename_i e;exact absurd e h1
   · split at h
     · cases h
     · split at h
       · exact fin _ rfl rfl _ h
       · injection h with h;subst h;exact⟨hm.num,hm.cost⟩
   · split at h
     · split at h
       · cases h
       · injection h with h;subst h;exact⟨hm.num,hm.cost⟩
     · split at h
       · injection h with h;subst h;exact⟨hm.num,hm.cost⟩
       · cases h
     · split at h
       · cases h
       · split at h
         · cases h
         · split at h
           · exact fin _ (by rfl) (by rfl) _ h
           · injection h with h;subst h;exact⟨hm.num,hm.cost⟩
   · injection h with h;subst h;exact⟨hm.num,hm.cost⟩
theorem RdJ.next {E:Nat} {L:za} {s s':WS} {x p q:Nat} (h:RdJ s p) (hx:x<18446744073709551616) (hpq:p<q) (hs:zr E L s x p q=.ok s') (h4:s'.tag<4):RdJ s' q:=
 ⟨zf2 h.fit h.inv h.tag hx hpq hs,zd6 h.inv h.tag hs,zrg h.tch h.inv h.tag hs,h4,(zj2 h hpq hs).1,(zj2 h hpq hs).2⟩
theorem RdJ.inner {L:za} {s:WS} {x p rest:Nat} (h:RdJ s p) (h1:s.tag=1) {i:PS} (hi:zm L.2.2.1 L.2.2.2.1 s.inner x rest=.ok i) (h6:i.tag=6):(zj i.v).length≤p+1:=by
 have:=zj0 (h.inv.inner h1).1 hi;rw[zj1 h6] at this;have:=h.cost;omega
end
section
open Go.RowKit
attribute [local go_sem] qj
theorem zj3 (g:Nat) (L:za) (nx V cu:Value) (s:PS) (k:Nat) (h:List Iv) (w:World) (hR:Row w g 282 (pkC L nx V s.ents k cu)) (he:0<s.ents) (he2:s.ents<18446744073709551616) (hk:k<18446744073709551616):
 Calls Tryz.prog 291 #[.pointer (some ⟨g,0,none⟩)] w fun e w'=>e=.returned (pkF g (yo s k h).tag)∧Row w' g 282 (pkC L nx V (yo s k h).ents (yo s k h).hls cu)∧w.grownBy w' (some g):=by
 obtain⟨tag,v,rep,mx,hh,ents,hls,lo⟩:=s;simp only at hR he he2;have q8:=hR.cell 8 rfl;have q9:=hR.cell 9 rfl;have z8:=hR.fz 8;have z9:=hR.fz 9;by_cases h0:0<k
 · have Hn:=hid (show yo ⟨tag,v,rep,mx,hh,ents,hls,lo⟩ k h=⟨4,v,rep,mx,h,ents,k - 1,lo⟩ from by unfold yo;rw[if_pos h0]);have e1:IntKind.u64.wrap ((k:Int) - 1)=((k - 1:Nat):Int):=by rw[IntKind.wrap_u64];omega
   have e2:(k:Int) - 1=((k - 1:Nat):Int):=by omega
   have HF:=hid (show Row (w.setCell ⟨g,9,none⟩ (.int .u64 ((k - 1:Nat):Int))) g 282 (pkC L nx V ents (k - 1) cu) from hR.set 9 _);rw[Hn.out];clear hR q8 z8 he he2;generalize k - 1=k1 at*;go_enter Tryz.func291,Tryz.ntmps291;go_wp2_with fail;go_ret;exact⟨rfl,HF.out,jt _ _ _ _⟩
 · obtain rfl:k=0:=by omega
   have e1:IntKind.u64.wrap ((ents - 1:Nat):Int)=((ents - 1:Nat):Int):=by rw[IntKind.wrap_u64];omega
   have e2:(ents:Int) - 1=((ents - 1:Nat):Int):=by omega
   have HF:=hid (show Row (w.setCell ⟨g,8,none⟩ (.int .u64 ((ents - 1:Nat):Int))) g 282 (pkC L nx V (ents - 1) 0 cu) from hR.set 8 _);by_cases h1:1<ents
   · have Hn:=hid (show yo ⟨tag,v,rep,mx,hh,ents,hls,lo⟩ 0 h=⟨1,v++[(rep,mx,h)],rep,mx,[],ents - 1,0,lo⟩ from by unfold yo;rw[if_neg (by omega),if_pos h1]);have h2:0<ents - 1:=by omega
     rw[Hn.out];clear hR he he2 h1;generalize ents - 1=e at*;go_enter Tryz.func291,Tryz.ntmps291;go_wp2_with fail;go_ret;exact⟨rfl,HF.out,jt _ _ _ _⟩
   · obtain rfl:ents=1:=by omega
     have Hn:=hid (show yo ⟨tag,v,rep,mx,hh,1,hls,lo⟩ 0 h=⟨6,v++[(rep,mx,h)],rep,mx,[],0,0,lo⟩ from by unfold yo;rw[if_neg (by omega),if_neg (by omega)];rfl);rw[Hn.out];clear hR he he2 h1 e1 e2;go_enter Tryz.func291,Tryz.ntmps291;go_wp2_with fail;go_ret;exact⟨rfl,HF.out,jt _ _ _ _⟩
theorem zj4 {w:World} {base:Nat} {s:PS} {V cu:Value} {k:Nat} {h:List Iv} (hE:EntO w base V s.v s.rep s.mx h) (hC:CuAt w base cu none h) (hl:yg h):PkB w base (yo s k h) V cu:=by
 unfold yo;split
 · exact⟨hE,hC⟩
 · split
   · exact hE.close hl
   · exact hE.close hl
set_option maxRecDepth 20000 in
theorem zrz (base g:Nat) (L:za) (nx:Value) (s:PS) (x rest:Nat) (w:World) (h:PkR w base g L nx s) (ht:s.tag=3) (hL:LimsI L) (hx:x<18446744073709551616) (hr:rest<9223372036854775808) (he:0<s.ents) (he2:s.ents<18446744073709551616):
 Calls Tryz.prog 273 #[.pointer (some ⟨g,0,none⟩),.int .u64 (x:Int),.int .i64 (rest:Int)] w (PkS w base g L (zm L.2.2.1 L.2.2.2.1 s x rest)):=by
 have hps:zm L.2.2.1 L.2.2.2.1 s x rest=if zl x L.2.2.2.1 rest≠0 then .error (zl x L.2.2.2.1 rest) else .ok (yo s x []):=by
  unfold zm;rw[ht];rfl
 rw[hps];clear hps;obtain⟨hg,V,cu,hR,hB⟩:=h;have hE:EntO w base V s.v s.rep s.mx []:=by unfold PkB at hB;rw[ht] at hB;exact hB
 have HL:=hid (zjr x L.2.2.2.1 rest w hx hL.d hr);have q3:=hR.cell 3 rfl;have HR:=hid hR;have Hg:=hid (show base≤w.heap.size by have:=hR.lt;omega);clear hB;by_cases hc:zl x L.2.2.2.1 rest=0
 · rw[hc] at HL;rw[if_neg (fun h=>h hc)];have HE:=hid hE;have HX:=hid hx;have He:=hid he;have He2:=hid he2;clear hc hx hr hR hE he he2 ht;go_enter Tryz.func273,Tryz.ntmps273;go_wp2_with fail;refine HL.out.mono ?_;rintro e w' ⟨rfl,rfl⟩;simp only[zbz,if_true];go_wp2_with fail;refine(zja 1 w).mono ?_;rintro e w1 ⟨rfl,hc1,hb1⟩;have h1:=HR.out.later hb1;have p9:=h1.cell 9 rfl;have p10:=h1.cell 10 rfl;have z9:=h1.fz 9;have z10:=h1.fz 10;have h2:Row ((w1.setCell ⟨g,9,none⟩ (.int .u64 (x:Int))).setCell ⟨g,10,none⟩ (.pointer (some ⟨w.heap.size,0,none⟩))) g 282 (pkC L nx V s.ents x (.pointer (some ⟨w.heap.size,0,none⟩))):=(h1.set 9 _).set 10 _;have hgr:w1.grownBy ((w1.setCell ⟨g,9,none⟩ (.int .u64 (x:Int))).setCell ⟨g,10,none⟩ (.pointer (some ⟨w.heap.size,0,none⟩))) (some g):=jd (a:=⟨g,10,none⟩) (jd (a:=⟨g,9,none⟩) (za7 _ _) _ (.inr rfl)) _ (.inr rfl);have HC:=hid (hc1.grown hgr (fun e=>by injection e with e;have:=HR.out.lt;omega));have HE2:=hid ((HE.out.later hb1).grown (h1.notT (by rintro(h | h | h) <;> cases h)) hgr);have HH:=hid (zj3 g L nx V (.pointer (some ⟨w.heap.size,0,none⟩)) s x [] _ h2 He.out He2.out HX.out);have HR2:=hid h2;have Hb:=hid (((hb1.mono Hg.out).setCell (p:=⟨g,9,none⟩) hg (.int .u64 (x:Int))).setCell (p:=⟨g,10,none⟩) hg (.pointer (some ⟨w.heap.size,0,none⟩)));clear h1 h2 hgr hc1 hb1 q3;go_wp2_with fail;refine HH.out.mono ?_;rintro e w4 ⟨rfl,hR4,hg4⟩;have HR4:=hid hR4;have hN:=HR2.out.notT (by rintro(h | h | h) <;> cases h);have HE4:=hid (HE2.out.grown hN hg4);have HC4:=hid (HC.out.grown hg4 (fun e=>by injection e with e;have:=HR.out.lt;omega));have Hb4:=hid (Hb.out.grown hg4 (by have:=Hb.out.size;have:=Hg.out;omega) (fun k hk=>by injection hk with hk;omega));clear hR4 hN hg4;generalize hnh:yo s x []=s' at*;have Hnh:=hid hnh;clear hnh;generalize hF:pkF g s'.tag=F at*;have HF:=hid hF;clear hF;go_wp2_with fail;go_ret2;refine⟨Hb4.out,nx,by rw[HF.out];rfl,hg,V,_,HR4.out,?_⟩;rw[←Hnh.out];exact zj4 HE4.out ⟨w.heap.size,0,rfl,Hg.out,fun y h=>(by cases h),HC4.out⟩ (fun t h=>(by cases h))
 · rw[if_pos hc];have hcv:zbz (zl x L.2.2.2.1 rest)=.iface 35 (.int .i64 ((zl x L.2.2.2.1 rest:Nat):Int)):=if_neg hc;rw[hcv] at HL;clear hc hx hr hR hcv hE he he2 ht;generalize zl x L.2.2.2.1 rest=c at*;go_enter Tryz.func273,Tryz.ntmps273;go_wp2_with fail;refine HL.out.mono ?_;rintro e w' ⟨rfl,rfl⟩;go_wp2_with fail;go_ret2;exact⟨Below.refl _ _,rfl,_,HR.out,rfl⟩
set_option maxRecDepth 20000 in
theorem zr0 (base g:Nat) (L:za) (nx:Value) (s:PS) (x rest:Nat) (w:World) (h:PkR w base g L nx s) (ht:s.tag=4) (hx:x<18446744073709551616) (hl:yg s.h):
 Calls Tryz.prog 299 #[.pointer (some ⟨g,0,none⟩),.int .u64 (x:Int),.int .i64 (rest:Int)] w (PkS w base g L (zm L.2.2.1 L.2.2.2.1 s x rest)):=by
 obtain⟨tag,v,rep,mx,hh,ents,hls,lo⟩:=s;simp only at ht hl;subst ht;obtain⟨hg,V,cu,hR,hB⟩:=h;obtain⟨hE,c,y,rfl,hbc,-,hC⟩:EntO w base V v rep mx hh∧CuAt w base cu none hh:=hB;have hps:zm L.2.2.1 L.2.2.2.1 ⟨4,v,rep,mx,hh,ents,hls,lo⟩ x rest=match loP (yk hh) 1 x with | none=>.error 8 | some z=>.ok ⟨5,v,rep,mx,hh,ents,hls,z⟩:=rfl
 rw[hps];clear hps;have HL:=hid (zfy c 1 y x hh.getLast? w hC (fun s hs=>(hl s (List.mem_of_getLast? hs)).2) (by omega) hx);have q10:=hR.cell 10 rfl;have HR:=hid hR;have HE:=hid hE;have HC:=hid hC;have Hne:=hid (hR.ne hC (by decide));have Hbw:=hid (show base≤w.heap.size by have:=hR.lt;omega);clear hR hE hC hx hl;unfold yk
 cases hlo:loP (hh.getLast?.map (·.2)) 1 x with
 | none=>
  rw[hlo] at HL;clear hlo;go_enter Tryz.func299,Tryz.ntmps299;go_wp2_with fail;refine HL.out.mono ?_;rintro e w1 ⟨rfl,hc1,hg1⟩;have HR1:=hid (HR.out.grown hg1 (fun e=>Hne.out (by injection e)));have Hb:=hid ((Below.refl base w).grown hg1 Hbw.out (fun k hk=>by injection hk with hk;omega));clear hc1 hg1;go_wp2_with fail;go_ret2
  exact⟨Hb.out,rfl,_,HR1.out,rfl⟩
 | some z=>
  rw[hlo] at HL;clear hlo;go_enter Tryz.func299,Tryz.ntmps299;go_wp2_with fail;refine HL.out.mono ?_;rintro e w1 ⟨rfl,hc1,hg1⟩;have HR1:=hid (HR.out.grown hg1 (fun e=>Hne.out (by injection e)));have Hb:=hid ((Below.refl base w).grown hg1 Hbw.out (fun k hk=>by injection hk with hk;omega));have HE1:=hid (HE.out.grown (HC.out.notT (by rintro(h | h | h) <;> cases h)) hg1);have HC1:=hid hc1;clear hc1 hg1;go_wp2_with fail;go_ret2;exact⟨Hb.out,nx,rfl,hg,V,_,HR1.out,HE1.out,c,z,rfl,hbc,fun y h=>(by injection h),HC1.out⟩
end
section
open Go.RowKit
attribute [local go_sem] qj
theorem zj5 {W:World} {base g:Nat} {L:za} {nx V cu:Value} {e h:Nat} {v:Vec} (hV:OwnV W base V v) (hR:Row W g 282 (pkC L nx V e h cu)) (hg:base≤g) (r:Nat) (hb:v.length+1≤1000000000000):
 ∃ge cp w',(Builtin.append_ #[95,95] 95 #[V,.slice (some ⟨W.heap.size,0,none⟩) 1 1]).run Tryz.prog (W.alloc (.cells #[.int .u64 ((r:Nat):Int),.int .u64 0,.slice none 0 0] 93))=.ok (.slice (some ⟨ge,0,none⟩) (v.length+1) cp) w'∧
  w'.cell? ⟨g,7,none⟩=some V∧w'.frozen? ⟨g,7,none⟩=false∧Below base W (w'.setCell ⟨g,7,none⟩ (.slice (some ⟨ge,0,none⟩) (v.length+1) cp))∧Row (w'.setCell ⟨g,7,none⟩ (.slice (some ⟨ge,0,none⟩) (v.length+1) cp)) g 282 (pkC L nx (.slice (some ⟨ge,0,none⟩) (v.length+1) cp) e h cu)∧EntO (w'.setCell ⟨g,7,none⟩ (.slice (some ⟨ge,0,none⟩) (v.length+1) cp)) base (.slice (some ⟨ge,0,none⟩) (v.length+1) cp) v r 0 []:=by
 have hal:Below W.heap.size W (W.alloc (.cells #[.int .u64 ((r:Nat):Int),.int .u64 0,.slice none 0 0] 93)):=(Below.refl _ _).alloc (Nat.le_refl _) _;have hbW:base≤W.heap.size:=by have:=hR.lt;omega
 obtain⟨V',w',hrun,hE,hgr,hk⟩:=(hV.below hal).open r (some ⟨W.heap.size,0,none⟩) 1 (kw (j2 W (.cells #[.int .u64 ((r:Nat):Int),.int .u64 0,.slice none 0 0] 93) _ rfl) rfl rfl) hb (Nat.le_trans hbW hal.size)
 obtain⟨ge,cp,rfl,-⟩:=hE.at
 have hR1:=hR.later hal;obtain⟨ss,ho,-⟩:=hV.below hal;have hR2:Row w' g 282 (pkC L nx V e h cu):=hR1.grown hgr fun e'=>hR1.ne_own ho (by decide) g e'.symm rfl
 refine⟨ge,cp,w',hrun,hR2.cell 7 rfl,hR2.fz 7,?_,hR2.set 7 _,hE.grown (hR2.notT (by rintro(h | h | h) <;> cases h)) (jt _ _ _ _)⟩;exact(Below.grown (hal.mono hbW) hgr (Nat.le_trans hbW hal.size) hk).setCell (p:=⟨g,7,none⟩) hg _
theorem zr1 (x:Nat):jk [] x=some x:=rfl
theorem zr2 {v:Vec} (h:0<v.length) (x:Nat):jk v x=if (zf v (v.length - 1)).1+1+x<18446744073709551616 then some ((zf v (v.length - 1)).1+1+x) else none:=by
 unfold jk;have hne:v≠[]:=fun e=>by rw[e] at h;cases h
 rw[List.getLast?_eq_getElem?,List.getElem?_eq_getElem (by omega),jq (by omega)]
set_option maxRecDepth 20000 in
theorem zr3 (base g:Nat) (L:za) (nx:Value) (s:PS) (x rest:Nat) (w:World) (h:PkR w base g L nx s) (ht:s.tag=1) (hx:x<18446744073709551616) (hlv:LtV s.v) (hl:s.v.length+1≤1000000000000):
 Calls Tryz.prog 231 #[.pointer (some ⟨g,0,none⟩),.int .u64 (x:Int),.int .i64 (rest:Int)] w (PkS w base g L (zm L.2.2.1 L.2.2.2.1 s x rest)):=by
 obtain⟨tag,v,rep,mx,hh,ents,hls,lo⟩:=s;simp only at ht hl hlv;subst ht;obtain⟨hg,V,cu,hR,hB⟩:=h;have hV:OwnV w base V v:=hB;have hps:zm L.2.2.1 L.2.2.2.1 ⟨1,v,rep,mx,hh,ents,hls,lo⟩ x rest=match jk v x with | none=>.error 8 | some r=>.ok ⟨2,v,r,mx,hh,ents,hls,lo⟩:=rfl
 rw[hps];clear hps hB;by_cases h0:v=[]
 · subst h0;obtain⟨a,c,rfl,-⟩:=hV.ents hlv;obtain⟨ge,cp,w',hrun,c7,f7,hb,hR',hE⟩:=zj5 hV hR hg x hl;have q7:=hR.cell 7 rfl;rw[zr1];have Hrun:=hid hrun;have HR:=hid hR';have HE:=hid hE;have Hb:=hid hb;clear hV hR hrun hR' hE hb hl hx hlv;simp only[List.length_nil] at*;go_enter Tryz.func231,Tryz.ntmps231;go_wp2_with (at_builtin;refine qf _ _ 95 rfl rfl _ _ rfl rfl _ _ Hrun.out ?_);go_ret2;exact⟨Hb.out,nx,rfl,hg,_,cu,HR.out,HE.out⟩
 · have hpos:0<v.length:=List.length_pos_iff.2 h0;obtain⟨a,c,rfl,hEn⟩:=hV.ents hlv;obtain⟨b,o,rfl,hcells⟩:=hEn.cells hpos;have hi:v.length - 1<v.length:=by omega
   have qe:=(hcells _ hi).1;have hrep:=(hlv _ (zcn hi)).rep;rw[zr2 hpos];generalize (zf v (v.length - 1)).1=y at*;have q7:=hR.cell 7 rfl
   have h64:∀z∈[y,1,x],z<18446744073709551616:=fun z hz=>by
    simp only[List.mem_cons,List.not_mem_nil,or_false] at hz;rcases hz with rfl | rfl | rfl <;> first | assumption | omega
   have H64:=hid h64;have hsum:[y,1,x].sum=y+1+x:=by simp only[List.sum_cons,List.sum_nil,Nat.add_zero,Nat.add_assoc]
   obtain⟨n,hn⟩:∃n,n=v.length:=⟨_,rfl⟩;have Hn:=hid hn;have HV:=hid hV;have HR:=hid hR;have Hl:=hid hl;have hn1:1≤n∧n≤1000000000000:=by omega
   rw[←hn] at qe q7;clear hcells hEn hi hrep h64 h0 hpos hx hlv hV hR hl hn;have e1:(n:Int) - 1=((n - 1:Nat):Int):=by omega
   by_cases hc:y+1+x<18446744073709551616
   · have hv:j6 [y,1,x].sum=.tuple #[.int .u64 ((y+1+x:Nat):Int),.bool true]:=by rw[hsum];exact zcv hc
     have HS:=hid (fun W hW=>zbx [y,1,x] W w.heap.size 3 hW rfl H64.out (by omega) hv);rw[if_pos hc];clear hc hsum hv;generalize y+1+x=S at*;go_enter Tryz.func231,Tryz.ntmps231;go_wp2_with fail;refine(HS.out _ (by exact j2 w _ _ rfl)).mono ?_;rintro e w1 ⟨rfl,hb1⟩;have hb2:Below w.heap.size w w1:=((Below.refl _ _).alloc (Nat.le_refl _) _).trans (hb1.mono (by simp));obtain⟨ge,cp,w',hrun,c7,f7,hb,hR',hE⟩:=zj5 (HV.out.below hb2) (HR.out.later hb2) hg S Hl.out;have p7:=(HR.out.later hb2).cell 7 rfl;rw[←Hn.out] at hrun c7 hb hR' hE p7;have Hrun:=hid hrun;have HR':=hid hR';have HE:=hid hE;have Hb:=hid ((hb2.mono (show base≤w.heap.size by have:=HR.out.lt;omega)).trans hb);clear hrun hR' hE hb hb1 hb2 qe q7 HR HV;go_wp2_with (at_builtin;refine qf _ _ 95 rfl rfl _ _ rfl rfl _ _ Hrun.out ?_);go_ret2;exact⟨Hb.out,nx,rfl,hg,_,cu,HR'.out,HE.out⟩
   · have hv:j6 [y,1,x].sum=.tuple #[.int .u64 0,.bool false]:=by rw[hsum];exact zcw hc
     have HS:=hid (fun W hW=>zbx [y,1,x] W w.heap.size 3 hW rfl H64.out (by omega) hv);rw[if_neg hc];clear hc hsum hv;go_enter Tryz.func231,Tryz.ntmps231;go_wp2_with fail;refine(HS.out _ (by exact j2 w _ _ rfl)).mono ?_;rintro e w1 ⟨rfl,hb1⟩;have hb2:Below w.heap.size w w1:=((Below.refl _ _).alloc (Nat.le_refl _) _).trans (hb1.mono (by simp));have HR':=hid (HR.out.later hb2);have Hb:=hid (hb2.mono (show base≤w.heap.size by have:=HR.out.lt;omega));clear hb1 hb2 qe q7 HR HV;go_wp2_with fail;go_ret2;exact⟨Hb.out,rfl,_,HR'.out,rfl⟩
end
section
open Go.RowKit
attribute [local go_sem] qj
theorem zr4 (L:za) (w:World):Calls Tryz.prog 145 #[lmV L] w fun e w'=>e=.returned (.pointer (some ⟨w.heap.size+1,0,none⟩))∧PkR w' w.heap.size (w.heap.size+1) L (pkF (w.heap.size+1) 0) ps0∧Below w.heap.size w w':=by
 unfold lmV;go_enter Tryz.func145,Tryz.ntmps145;go_wp2_with fail;go_ret;refine⟨rfl,⟨by omega,.slice none 0 0,.pointer none,?_,rfl⟩,((Below.refl _ _).alloc (Nat.le_refl _) _).alloc (by simp) _⟩;have:=yf (w.alloc (.cells #[.int .i64 L.1,.int .i64 L.2.1,.int .i64 L.2.2.1,.int .i64 L.2.2.2.1,.int .i64 L.2.2.2.2] 24)) 282 (pkC L (pkF (w.heap.size+1) 0) (.slice none 0 0) 0 0 (.pointer none));rw[World.size_alloc] at this;exact this
theorem zed (g ge n cap:Nat) (w:World) (hq:w.cell? ⟨g,7,none⟩=some (.slice (some ⟨ge,0,none⟩) (n+1) cap)) (hn:n≤1000000000000):
 Calls Tryz.prog 272 #[.pointer (some ⟨g,0,none⟩)] w fun e w'=>e=.returned (.pointer (some ⟨ge,n*3,none⟩))∧∃k,w'=w.drewN k:=by
 go_enter Tryz.func272,Tryz.ntmps272;go_wp2;go_quiet (fail);go_wp2;go_ret;exact⟨rfl,_,rfl⟩
set_option maxRecDepth 20000 in
theorem zr5 (base g:Nat) (L:za) (nx:Value) (s:PS) (x rest:Nat) (w:World) (h:PkR w base g L nx s) (ht:s.tag=0) (hL:LimsI L) (hx:x<18446744073709551616) (hr:rest<9223372036854775808):
 Calls Tryz.prog 189 #[.pointer (some ⟨g,0,none⟩),.int .u64 (x:Int),.int .i64 (rest:Int)] w (PkS w base g L (zm L.2.2.1 L.2.2.2.1 s x rest)):=by
 obtain⟨tag,v,rep,mx,hh,ents,hls,lo⟩:=s;simp only at ht;subst ht;obtain⟨hg,V,cu,hR,hB⟩:=h;have hV:V=.slice none 0 0:=hB;subst hV;have HL:=hid (zjr x L.2.2.1 rest w hx hL.c hr);have q2:=hR.cell 2 rfl;have q8:=hR.cell 8 rfl;have z8:=hR.fz 8;have HR:=hid hR;have Hg:=hid (show base≤w.heap.size by have:=hR.lt;omega);clear hB;by_cases hc:zl x L.2.2.1 rest=0
 · rw[hc] at HL;have Hc:=hid hc;clear hc hx hr;by_cases hx0:x=0
   · subst hx0
     have Hp:=hid (show zm L.2.2.1 L.2.2.2.1 ⟨0,v,rep,mx,hh,ents,hls,lo⟩ 0 rest=.error 9 from by
      show (if zl 0 L.2.2.1 rest≠0 then _ else _)=_;rw[if_neg (fun h=>h Hc.out),if_pos rfl])
     rw[Hp.out];clear hR;go_enter Tryz.func189,Tryz.ntmps189;go_wp2_with fail;refine HL.out.mono ?_;rintro e w' ⟨rfl,rfl⟩;simp only[zbz,if_true];go_wp2_with fail;go_ret2;exact⟨Below.refl _ _,rfl,_,HR.out,rfl⟩
   · have Hp:=hid (show zm L.2.2.1 L.2.2.2.1 ⟨0,v,rep,mx,hh,ents,hls,lo⟩ x rest=.ok ⟨1,[],rep,mx,hh,x,hls,lo⟩ from by
      show (if zl x L.2.2.1 rest≠0 then _ else _)=_;rw[if_neg (fun h=>h Hc.out),if_neg hx0])
     rw[Hp.out];have HS:=hid (show Row (w.setCell ⟨g,8,none⟩ (.int .u64 (x:Int))) g 282 (pkC L nx (.slice none 0 0) x hls cu) from hR.set 8 _);clear hR;go_enter Tryz.func189,Tryz.ntmps189;go_wp2_with fail;refine HL.out.mono ?_;rintro e w' ⟨rfl,rfl⟩;simp only[zbz,if_true];go_wp2_with fail;go_ret2;exact⟨(Below.refl _ _).setCell (p:=⟨g,8,none⟩) hg _,nx,rfl,hg,_,cu,HS.out,zn4 _ _⟩
 · have Hp:=hid (show zm L.2.2.1 L.2.2.2.1 ⟨0,v,rep,mx,hh,ents,hls,lo⟩ x rest=.error (zl x L.2.2.1 rest) from by
    show (if zl x L.2.2.1 rest≠0 then _ else _)=_;rw[if_pos hc])
   rw[Hp.out];have hcv:zbz (zl x L.2.2.1 rest)=.iface 35 (.int .i64 ((zl x L.2.2.1 rest:Nat):Int)):=if_neg hc;rw[hcv] at HL;clear hc hx hr hR hcv;generalize zl x L.2.2.1 rest=c at*;go_enter Tryz.func189,Tryz.ntmps189;go_wp2_with fail;refine HL.out.mono ?_;rintro e w' ⟨rfl,rfl⟩;go_wp2_with fail;go_ret2;exact⟨Below.refl _ _,rfl,_,HR.out,rfl⟩
set_option maxRecDepth 20000 in
theorem zr6 (base g:Nat) (L:za) (nx:Value) (s:PS) (x rest:Nat) (w:World) (h:PkR w base g L nx s) (ht:s.tag=2) (hl:s.v.length≤1000000000000):
 Calls Tryz.prog 260 #[.pointer (some ⟨g,0,none⟩),.int .u64 (x:Int),.int .i64 (rest:Int)] w (PkS w base g L (zm L.2.2.1 L.2.2.2.1 s x rest)):=by
 obtain⟨tag,v,rep,mx,hh,ents,hls,lo⟩:=s;simp only at ht hl;subst ht;obtain⟨hg,V,cu,hR,hB⟩:=h;have hE:EntO w base V v rep 0 []:=hB;obtain⟨ge,cap,rfl,hge,hgl,⟨C,fr,hrow⟩,c0,c1,hf,-⟩:=hE.at
 have HE:=hid (fun k=>(hE.later (zv (Below.refl _ _) k)).max x);have q7:=hR.cell 7 rfl;have HP:=hid (zed g ge v.length cap w q7 hl);have HR:=hid hR
 have Hne:=hid (show g≠ge from fun e=>by
  subst e;unfold Row at hR;rw[hrow] at hR;injection hR with hR;injection hR with _ hR _;cases hR)
 have Hp:=hid (show zm L.2.2.1 L.2.2.2.1 ⟨2,v,rep,mx,hh,ents,hls,lo⟩ x rest=.ok ⟨3,v,rep,x,hh,ents,hls,lo⟩ from rfl);rw[Hp.out];have c1':∀k,(w.drewN k).cell? ⟨ge,v.length*3+1,none⟩=some (.int .u64 0):=fun k=>c1
 have f1:∀k,(w.drewN k).frozen? ⟨ge,v.length*3+1,none⟩=false:=fun k=>hf _
 clear hE hB hrow c0 c1 hf hR q7;go_enter Tryz.func260,Tryz.ntmps260;go_wp2_with fail;refine HP.out.mono ?_;rintro e w' ⟨rfl,k,rfl⟩;go_wp2_with fail;go_ret2;exact⟨(show Below base w (w.drewN k) from zv (Below.refl _ _) k).setCell (p:=⟨ge,v.length*3+1,none⟩) hge _,nx,rfl,hg,_,cu,(show Row (w.drewN k) _ _ _ from HR.out).other (a:=⟨ge,v.length*3+1,none⟩) Hne.out _,HE.out k⟩
end
