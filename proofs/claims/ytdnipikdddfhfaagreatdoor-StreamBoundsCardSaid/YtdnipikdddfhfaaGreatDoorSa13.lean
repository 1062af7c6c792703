/- Part 13. -/
import Derived.Test.YtdnipikdddfhfaaGreatDoorSa12
set_option linter.unusedVariables false
set_option maxHeartbeats 16000000
namespace Go.Proofs.YtdnipikdddfhfaaGreatDoor
open Lib (hid)
section
open Go.RowKit
theorem Rf.keep {w w':World} {g:Nat} {a:Option Addr} {n cap E:Nat} {l:List Nat} (hB:∀W,w.grownBy W (some g)→Rf W a n cap E l) (h:w.grownBy w' (some g)):∀W,w'.grownBy W (some g)→Rf W a n cap E l:=fun W hW=>hB W (zg h hW)
theorem zbb {w w' w2:World} {r r2:Option Nat} (h:w.grownBy w' r) (h2:w'.grownBy w2 r2) (hk:∀k,r2=some k→w.heap.size≤k):w.grownBy w2 r:=
 ⟨h2.os.trans h.os,h2.tape.trans h.tape,h2.output.trans h.output,Nat.le_trans h.size h2.size,fun k hlt hne=>(h2.block k (Nat.lt_of_lt_of_le hlt h.size) (fun e=>by have:=hk k e.symm;omega)).trans (h.block k hlt hne)⟩
theorem CurM.grown {w w':World} {g:Nat} {B:Value} {E:Nat} {s:Except (Nat×Nat) Nat} {r:Option Nat} (h:CurM w g B E s) (hg:w.grownBy w' r) (hr:some g≠r):CurM w' g B E s:=by
 cases s with
 | ok q=>exact Row.grown h hg hr
 | error e=>obtain⟨q,h⟩:=h;exact⟨q,h.grown hg hr⟩
theorem CurM.ne_own {w:World} {g base sz n:Nat} {B V:Value} {E:Nat} {s:Except (Nat×Nat) Nat} {e:TypeId} {xs:List Value} (h:CurM w g B E s) (ho:w.ownsRow base e sz V n xs) (hT:106≠e):∀k,V.ownBlock=some k→k≠g:=by
 cases s with
 | ok q=>exact Row.ne_own h ho hT
 | error e=>obtain⟨q,h⟩:=h;exact Row.ne_own h ho hT
def FS (w0:World) (g:Nat) (B:Value) (q E c p:Nat) (W:World):Prop:=w0.grownBy W (some g)∧(Row W g 106 (za1 B q E 0 0 false)∨Row W g 106 (za1 B q E c p false))
theorem FS.drew {w0 W:World} {g q E c p:Nat} {B:Value} (h:FS w0 g B q E c p W):FS w0 g B q E c p W.drew:=⟨zri h.1 1,h.2⟩
theorem FS.later {w0 W W':World} {g q E c p:Nat} {B:Value} (h:FS w0 g B q E c p W) (hb:Below W.heap.size W W'):FS w0 g B q E c p W':=⟨ym h.1 hb,h.2.imp (fun h=>h.later hb) (fun h=>h.later hb)⟩
theorem FS.next {w0 W:World} {g q E c p:Nat} {B:Value} (h:FS w0 g B q E c p W):W.cell? ⟨g,1,none⟩=some (.int .i64 q):=by
 rcases h.2 with h | h
 · exact h.cell 1 rfl
 · exact h.cell 1 rfl
theorem FS.one {w0 W:World} {g q E c p:Nat} {B:Value} (h:FS w0 g B q E c p W):w0.grownBy W (some g):=h.1
theorem OwnV.slice {w:World} {base:Nat} {V:Value} {v:Vec} (h:OwnV w base V v):∃a c,V=.slice a v.length c:=by
 obtain⟨ss,ho,-⟩:=h;exact jm ho
theorem OwnV.ne {w:World} {base g:Nat} {B V:Value} {E:Nat} {s:Except (Nat×Nat) Nat} {v:Vec} (hV:OwnV w base V v) (h:CurM w g B E s):some g≠V.ownBlock:=by
 obtain⟨ss,ho,-⟩:=hV;exact fun e=>CurM.ne_own h ho (by decide) g e.symm rfl
theorem OwnV.row {w:World} {base r:Nat} {V:Value} {v:Vec} {T:TypeId} {C:List Value} (hV:OwnV w base V v) (h:Row w r T C) (hT:T≠93):some r≠V.ownBlock:=by
 obtain⟨ss,ho,-⟩:=hV;exact fun e=>h.ne_own ho hT r e.symm rfl
theorem CurM.notT {w:World} {g:Nat} {B:Value} {E:Nat} {s:Except (Nat×Nat) Nat} (h:CurM w g B E s):NotT w g:=by
 cases s with
 | ok q=>exact Row.notT h (by unfold yz;decide)
 | error e=>obtain⟨q,h⟩:=h;exact h.notT (by unfold yz;decide)
end
section
def Fwd (T:zl):Prop:=∀p x q,T p=.ok (x,q)→p<q
def okC (n:Nat) (lim:Int):Prop:=(n:Int)≤lim∨n=0
instance (n:Nat) (lim:Int):Decidable (okC n lim):=by unfold okC;infer_instance
theorem zcl {T:zl} {p x q:Nat} (h:T p=.ok (x,q)):nmP T p=.ok (x,q):=by unfold nmP;rw[h]
theorem zt8 {x rest:Nat} {lim:Int} (h1:okC x lim) (h2:x≤rest):zo x lim rest=0:=by
 unfold zo;rw[if_neg (by rintro⟨h3,h4⟩;rcases h1 with h | h <;> omega),if_neg (by omega)]
theorem zt9 {x rest:Nat} {lim:Int} (h1:¬okC x lim):zo x lim rest=7:=by
 unfold zo okC at*;rw[if_pos ⟨by omega,fun h=>h1 (.inr h)⟩]
theorem zcm {T:zl} {E p x q:Nat} {lim:Int} (h:T p=.ok (x,q)) (h1:okC x lim) (h2:q+x≤E):zv T E lim p=.ok (x,q):=by
 unfold zv;rw[zcl h,zt,zt8 h1 (by omega),if_pos rfl]
theorem zfm {T:zl} {E p x q:Nat} {lim:Int} (h:T p=.ok (x,q)) (h1:¬okC x lim):zv T E lim p=.error (7,p):=by
 unfold zv;rw[zcl h,zt,zt9 h1,if_neg (by omega)]
theorem zed {α:Type} {l:List α} {d:Nat} (hd:d<l.length):(l.take (d+1)).getLast?=some l[d]:=by
 rw[List.take_succ_eq_append_getElem hd];exact List.getLast?_concat
theorem zua {T:zl} {a b p q:Nat} (h:yt T p [a,b] q):∃r,T p=.ok (a,r)∧T r=.ok (b,q):=by
 obtain⟨r,h1,s,h2,rfl⟩:=h;exact⟨r,h1,h2⟩
theorem zub {l:List Iv} {a d:Nat} (hD:zaf l a) (hlt:yi l) (hd:d<l.length):loP (zp (l.take d)) a (jo l a d)=some (zc l d).1:=by
 unfold zp jo
 cases d with
 | zero=>rw[if_pos rfl];simp[loP]
 | succ n=>
  have h1:=(hD (n+1) hd).2 (by omega);have h2:=hlt _ (za5 hd);rw[if_neg (by omega),zed (by omega)];rw[show n+1 - 1=n by omega,qo (show n<l.length by omega)] at*;simp only[Option.map_some,loP];rw[if_pos (by omega)];congr 1;omega
theorem zl1 {T:zl} {l:List Iv} {a d p q:Nat} (hD:zaf l a) (hlt:yi l) (hd:d<l.length) (h:yt T p [jo l a d,(zc l d).2 - (zc l d).1] q):∃w,ivP T (zp (l.take d)) a p=.ok ((zc l d,w),q):=by
 obtain⟨r,h1,h2⟩:=zua h;refine⟨r,?_⟩;have g1:=(hD d hd).1;have g2:=hlt _ (za5 hd);unfold ivP;rw[zcl h1,zt,zub hD hlt hd];simp only[hiP];rw[zcl h2,zt,show (zc l d).1+((zc l d).2 - (zc l d).1)=(zc l d).2 by omega,if_pos g2.2]
theorem zl2 {T:zl} {mx:Nat} {h:List Iv} (hD:zaf h 1) (hlt:yi h) (hm:∀s∈h,s.2<mx):∀d,d≤h.length→∀{p r:Nat},yt T p (jr h 1 d) r→∀k,qa T mx (d+k) [] p=qa T mx k (h.take d) r
 | 0,_,p,r,hr,k=>by cases hr;rw[List.take_zero,Nat.zero_add]
 | d+1,hd,p,r,hr,k=>by
   rw[jr] at hr;obtain⟨s,h1,h2⟩:=js.1 hr;obtain⟨w,h3⟩:=zl1 hD hlt hd h2;rw[show d+1+k=d+(k+1) by omega,zl2 hD hlt hm d (by omega) h1 (k+1),qa,h3,zt];unfold kq;rw[if_neg (by have:=hm _ (za5 (show d<h.length from hd));simp only;omega),List.take_succ_eq_append_getElem hd,qo hd]
theorem zl3 {T:zl} {E:Nat} {lim:Int} (hT:Fwd T) {v:Vec} (hv:CanV v) (hl:LtV v) (hm:∀e∈v,∀s∈e.2.2,s.2<e.2.1) {d p q:Nat} (hd:d<v.length) (h:yt T p (zag v d) q) (hq:q≤E):
 (okC (zi v d).2.2.length lim→qr T E lim (v.take d) p=.ok (zi v d,q))∧(¬okC (zi v d).2.2.length lim→∃w,qr T E lim (v.take d) p=.error (7,w)):=by
 have hmem:=zc3 hd;obtain⟨r3,⟨r1,t1,r2,t2,r2',t3,rfl⟩,h4⟩:=js.1 h
 have hrep:jv (v.take d) (zbz v d)=some (zi v d).1:=by
  unfold jv zbz
  cases d with
  | zero=>rw[if_pos rfl];simp
  | succ n=>
   have h1:=List.pairwise_iff_getElem.1 hv.asc n (n+1) (by omega) hd (by omega);have h2:=(hl _ hmem).rep;unfold zdw at h1;rw[if_neg (by omega),zed (by omega)];rw[vz hd] at h2 ⊢;rw[show n+1 - 1=n by omega,vz (show n<v.length by omega)];simp only;rw[if_pos (by omega)];congr 1;omega
 have hcan:=hv.ent _ hmem;have hlen:=zba hT h4;have hdl:(zfe (zi v d).2.2 1).length=2*(zi v d).2.2.length:=zku _ _ _;have hh:=zl2 (T:=T) (mx:=(zi v d).2.1) (zse hcan.good) (hl _ hmem).holes (hm _ hmem) (zi v d).2.2.length (Nat.le_refl _) h4 0;rw[List.take_length,Nat.add_zero,qa] at hh;unfold qr;rw[zcl t1,zt,hrep];simp only[zao];rw[zcl t2,zt];unfold za0;constructor
 · intro hc;rw[zcm t3 hc (by omega),zt,hh,zt]
 · intro hc;exact⟨r2,by rw[zfm t3 hc,zai]⟩
theorem zl4 {v:Vec} (hv:CanV v):∀e∈v,∀s∈e.2.2,s.2<e.2.1:=fun e he s hs=>by
 have h:=hv.ent e he;have h1:=h.below s hs;rcases Nat.lt_or_ge s.2 e.2.1 with h2 | h2
 · exact h2
 · have h3:=h.top;have h4:mem e.2.2 e.2.1=true:=mem_iff.2 ⟨s,hs,by have:=h.good.ok s hs;omega,by omega⟩;rw[h3] at h4;cases h4
theorem zhm {T:zl} {E:Nat} {lim:Int} (hT:Fwd T) {v:Vec} (hv:CanV v) (hl:LtV v):∀d,d≤v.length→∀{p r:Nat},yt T p (ky v d) r→r≤E→
 ∃r0,T p=.ok (v.length,r0)∧r0+d≤r∧∀k,(∀i,i<d→okC (zi v i).2.2.length lim)→y8 T E lim (d+k) [] r0=y8 T E lim k (v.take d) r
 | 0,_,p,r,hr,hE=>by
   obtain⟨r0,h1,rfl⟩:=hr
   exact⟨r0,h1,by omega,fun k _=>by rw[List.take_zero,Nat.zero_add]⟩
 | d+1,hd,p,r,hr,hE=>by
   rw[ky] at hr;obtain⟨s,h1,h2⟩:=js.1 hr;have h3:=zba hT h2;have h4:3≤(zag v d).length:=by unfold zag;simp
   obtain⟨r0,h5,h6,h7⟩:=zhm hT hv hl d (by omega) h1 (show s≤E by omega);refine⟨r0,h5,by omega,fun k hk=>?_⟩;rw[show d+1+k=d+(k+1) by omega,h7 (k+1) (fun i hi=>hk i (by omega)),y8,(zl3 hT hv hl (zl4 hv) hd h2 hE).1 (hk d (by omega)),zt,List.take_succ_eq_append_getElem hd,vz hd]
theorem zl5 {P:Nat→Prop} [DecidablePred P] {n:Nat} (h:¬∀i,i<n→P i):∃i,i<n∧¬P i∧∀j,j<i→P j:=by
 induction n with
 | zero=>exact absurd (fun i hi=>by omega) h
 | succ n ih=>
  by_cases h1:∀i,i<n→P i
  · refine⟨n,by omega,fun h2=>h fun i hi=>?_,h1⟩;rcases Nat.lt_or_ge i n with h3 | h3
    · exact h1 i h3
    · rwa [show i=n by omega]
  · obtain⟨i,hi,h2,h3⟩:=ih h1;exact⟨i,by omega,h2,h3⟩
def okV (le lh:Int) (v:Vec):Prop:=okC v.length le∧∀i,i<v.length→okC (zi v i).2.2.length lh
theorem zhn (v:Vec) (i:Nat):∀d,i≤d→∃R,ky v d=ky v i++R
 | 0,h=>⟨[],by rw[show i=0 by omega,List.append_nil]⟩
 | d+1,h=>by
   rcases Nat.lt_or_ge d i with h1 | h1
   · exact⟨[],by rw[show i=d+1 by omega,List.append_nil]⟩
   · obtain⟨R,e⟩:=zhn v i d h1;exact⟨R++zag v d,by rw[ky,e,List.append_assoc]⟩
theorem zl6 {T:zl} {E:Nat} {le lh:Int} (hT:Fwd T) {v:Vec} (hv:CanV v) (hl:LtV v) (hne:v≠[]) {p r:Nat} (hr:yt T p (zay v) r) (hE:r≤E):
 (okV le lh v→jb T E le lh p=.ok (v,r))∧(¬okV le lh v→∃w,jb T E le lh p=.error (7,w)):=by
 obtain⟨r0,h1,h2,h3⟩:=zhm (E:=E) (lim:=lh) hT hv hl v.length (Nat.le_refl _) hr hE;have h0:v.length≠0:=fun h=>hne (List.length_eq_zero_iff.1 h)
 constructor
 · rintro⟨k1,k2⟩;have:=h3 0 k2;rw[Nat.add_zero,List.take_length,y8] at this;unfold jb;rw[zcm h1 k1 (by omega),zt,if_neg h0,this]
 · intro hn;by_cases k1:okC v.length le
   · obtain⟨i,hi,hb,hlt⟩:=zl5 (P:=fun i=>okC (zi v i).2.2.length lh) (n:=v.length) (fun h=>hn ⟨k1,h⟩);obtain⟨R,e⟩:=zhn v (i+1) v.length hi;have hr':=hr;unfold zay at hr';rw[e] at hr';obtain⟨s,g1,g2⟩:=js.1 hr';have g3:=zba hT g2;rw[ky] at g1;obtain⟨t,g4,g5⟩:=js.1 g1;have g6:=zba hT g5;obtain⟨r0',h1',-,h3'⟩:=zhm (E:=E) (lim:=lh) hT hv hl i (by omega) g4 (by omega);obtain rfl:r0'=r0:=by rw[h1] at h1';injection h1' with h;injection h with _ h;exact h.symm
     obtain⟨w,hw⟩:=(zl3 (E:=E) hT hv hl (zl4 hv) hi g5 (by omega)).2 hb;have:=h3' (v.length - i) hlt;rw[show i+(v.length - i)=v.length by omega,show v.length - i=(v.length - i - 1)+1 by omega,y8,hw,zai] at this
     exact⟨w,by
      unfold jb;rw[zcm h1 k1 (by omega),zt,if_neg h0,this]⟩
   · exact⟨p,by
      unfold jb;rw[zfm h1 k1,zai]⟩
end
section
open Go.RowKit
def SegB (wz w:World) (base:Nat) (K:Value) (vs:List Vec) (l:List Iv) (ix:List Nat) (all:Value) (la:List Iv):Prop:=
 ∃X Y,base≤wz.heap.size∧Steady 0 za7 wz w∧(∀i,i<vs.length→EnSl wz 0 (Y i) (yr vs i))∧w.ownsRow base 97 2 K vs.length (vb vs.length X Y)∧
  (∀i,i<vs.length→w.ownsRow wz.heap.size 89 2 (X i) (itN l ix i).length (ivC (itN l ix i)))∧(∀i,i<vs.length→∀j,j<vs.length→i≠j→∀b,(X i).ownBlock=some b→(X j).ownBlock≠some b)∧
  w.ownsRow wz.heap.size 89 2 all la.length (ivC la)∧∀i,i<vs.length→∀b,(X i).ownBlock=some b→all.ownBlock≠some b
theorem SegB.seg {wz w:World} {base:Nat} {K all:Value} {vs:List Vec} {l la:List Iv} {ix:List Nat} (h:SegB wz w base K vs l ix all la):SegM w base K vs l ix:=by
 obtain⟨X,Y,h1,h2,h3,h4,h5,h6,-,-⟩:=h;exact⟨wz,X,Y,h1,h2,h3,h4,h5,h6⟩
theorem SegB.own {wz w:World} {base:Nat} {K all:Value} {vs:List Vec} {l la:List Iv} {ix:List Nat} (h:SegB wz w base K vs l ix all la):w.ownsRow base 89 2 all la.length (ivC la):=by
 obtain⟨X,Y,h1,h2,h3,h4,h5,h6,h7,h8⟩:=h;exact zad h7 h1
theorem SegB.steady {wz w w':World} {base:Nat} {K all:Value} {vs:List Vec} {l la:List Iv} {ix:List Nat} (h:SegB wz w base K vs l ix all la) (hs:Steady 0 yz w w'):SegB wz w' base K vs l ix all la:=by
 obtain⟨X,Y,h1,h2,h3,h4,h5,h6,h7,h8⟩:=h;exact⟨X,Y,h1,h2.trans (hs.weak fun T hT=>hT.imp id .inl),h3,zav h4 hs (.inr (.inr rfl)),fun i hi=>zav (h5 i hi) hs (.inl rfl),h6,zav h7 hs (.inl rfl),h8⟩
theorem SegB.grown {wz w w':World} {base g:Nat} {K all:Value} {vs:List Vec} {l la:List Iv} {ix:List Nat} (h:SegB wz w base K vs l ix all la) (hN:NotT w g) (hg:w.grownBy w' (some g)):SegB wz w' base K vs l ix all la:=h.steady (zb1 hN (Nat.zero_le _) hg)
theorem SegB.later {wz w w':World} {base:Nat} {K all:Value} {vs:List Vec} {l la:List Iv} {ix:List Nat} (h:SegB wz w base K vs l ix all la) (hb:Below w.heap.size w w'):SegB wz w' base K vs l ix all la:=h.steady (.of_below hb)
theorem zuc {w:World} {base sz n:Nat} {e:TypeId} {v:Value} {xs:List Value} (h:w.ownsRow base e sz v n xs):∀k,v.ownBlock=some k→∃C fr,w.heap[k]?=some (.cells C e fr):=fun k hk=>by
 rcases h.2 with ⟨e,_⟩ | ⟨b,cap',cur,e,_,hh,_⟩
 · rw[e] at hk;cases hk
 · have e':b=k:=by rw[e] at hk;simpa [Value.ownBlock] using hk
   subst e';exact⟨_,_,hh⟩
theorem SegB.more {wz w:World} {base:Nat} {K all:Value} {vs:List Vec} {l la:List Iv} {ix:List Nat} (h:SegB wz w base K vs l ix all la) (s:Iv) (A:Option Addr) (c:Nat) (hr:Rd w 2 A 1 (ivC [s])) (hb:la.length+1≤1000000000000):
 ∃S' w',(Builtin.append_ #[91,91] 91 #[all,.slice A 1 c]).run Tryz.prog w=.ok S' w'∧w.grownBy w' all.ownBlock∧(∀k,all.ownBlock=some k→base≤k∧∃C fr,w.heap[k]?=some (.cells C 89 fr))∧SegB wz w' base K vs l ix S' (la++[s]):=by
 obtain⟨X,Y,h1,h2,h3,h4,h5,h6,h7,h8⟩:=h;obtain⟨S',w',hrun,ho,hg,hat⟩:=zfi wz.heap.size all _ _ h7 A c s hr (by omega) h2.size;have keep:∀k,k<w.heap.size→all.ownBlock≠some k→w'.heap[k]?=w.heap[k]?:=fun k hk hne=>hg.block k hk fun e=>hne e.symm
 refine⟨S',w',hrun,hg,fun k hk=>⟨Nat.le_trans h1 (h7.lt k hk).1,zuc h7 k hk⟩,X,Y,h1,⟨Nat.le_trans h2.size hg.size,fun k hk hp=>?_⟩,h3,?_,fun i hi=>?_,h6,by rw[List.length_append];exact ho,fun i hi b hx hy=>?_⟩
 · rw[keep k (Nat.lt_of_lt_of_le hk h2.size) fun e=>by have:=(h7.lt k e).1;omega];exact h2.row k hk hp
 · exact yj h4 fun k hk=>keep k (h4.lt k hk).2 fun e=>zaj h4 h7 (by decide) k hk e
 · exact yj (h5 i hi) fun k hk=>keep k ((h5 i hi).lt k hk).2 (h8 i hi k hk)
 · rcases hat b hy with h' | h'
   · exact h8 i hi b hx h'
   · have:=((h5 i hi).lt b hx).2;omega
theorem SegB.put {wz w:World} {base g cap:Nat} {all:Value} {la:List Iv} {vs:List Vec} {l:List Iv} {ix:List Nat} (h:SegB wz w base (.slice (some ⟨g,0,none⟩) vs.length cap) vs l ix all la) (hli:ix.length=l.length) {i:Nat} (hi:i<vs.length) {S:Value} (hS:w.cell? ⟨g,i*2,none⟩=some S) (s:Iv)
 (W:World) (hW:Below w.heap.size w W) (A:Option Addr) (c:Nat) (hr:Rd W 2 A 1 (ivC [s])) (hb:l.length+1≤1000000000000):
 ∃S' w',(Builtin.append_ #[91,91] 91 #[S,.slice A 1 c]).run Tryz.prog W=.ok S' w'∧(∃gS m cS,S'=.slice (some ⟨gS,0,none⟩) m cS)∧W.grownBy w' S.ownBlock∧(∀k,S.ownBlock=some k→base≤k∧∃C fr,W.heap[k]?=some (.cells C 89 fr))∧w'.cell? ⟨g,i*2,none⟩=some S∧w'.frozen? ⟨g,i*2,none⟩=false∧
  ∀w2,w'.grownBy w2 none→SegB wz (w2.setCell ⟨g,i*2,none⟩ S') base (.slice (some ⟨g,0,none⟩) vs.length cap) vs (l++[s]) (ix++[i]) all la:=by
 obtain⟨X,Y,h1,h2,h3,h4,h5,h6,h7,h8⟩:=h
 have e0:X i=S:=by
  have c1:=h4.cells (g:=g) rfl _ _ (zbk hi X Y).1;rw[qi,Nat.zero_add,hS] at c1;injection c1 with c1;exact c1.symm
 subst e0;have k4:=yk h4 hW;have k5:=fun j hj=>yk (h5 j hj) hW
 have hz:wz.heap.size≤W.heap.size:=Nat.le_trans h2.size hW.size;have hit:(itN l ix i).length≤l.length:=zg8 _ _ _ _;obtain⟨S',w',hrun,ho,hg,hat⟩:=zfi wz.heap.size (X i) _ _ (k5 i hi) A c s hr (by omega) hz
 have hty:∀k,(X i).ownBlock=some k→∃C fr,W.heap[k]?=some (.cells C 89 fr):=fun k hk=>by
  rcases(k5 i hi).2 with ⟨e,_⟩ | ⟨b,cap',cur,e,_,hh,_⟩
  · rw[e] at hk;cases hk
  · have e':b=k:=by rw[e] at hk;simpa [Value.ownBlock] using hk
    subst e';exact⟨_,_,hh⟩
 have hne:(X i).ownBlock≠some g:=fun e=>zaj k4 (k5 i hi) (by decide) g rfl e
 have e4:w'.ownsRow base 97 2 (.slice (some ⟨g,0,none⟩) vs.length cap) vs.length (vb vs.length X Y):=yj k4 fun k hk=>by
  have e:g=k:=by simpa [Value.ownBlock] using hk
  subst e;exact hg.block g (k4.lt g rfl).2 fun e=>hne e.symm
 have hcell:w'.cell? ⟨g,i*2,none⟩=some (X i):=by
  have c1:=e4.cells (g:=g) rfl _ _ (zbk hi X Y).1;rwa [qi,Nat.zero_add] at c1
 obtain⟨gS,cS,eS,-⟩:=zbi ho (Nat.succ_pos _);refine⟨S',w',hrun,⟨gS,_,cS,eS⟩,hg,fun k hk=>⟨Nat.le_trans h1 ((k5 i hi).lt k hk).1,hty k hk⟩,hcell,e4.frozenAt _,fun w2 hw2=>?_⟩;have f4:=yj (w':=w2) e4 fun k hk=>hw2.block k (e4.lt k hk).2 (by simp)
 have fS:=yj (w':=w2) ho fun k hk=>hw2.block k (ho.lt k hk).2 (by simp)
 obtain⟨p1,p2⟩:=f4.stored (i*2) S'
 have hrow:∃C fr,w2.heap[g]?=some (.cells C 97 fr):=by
  rcases f4.2 with ⟨h',_⟩ | ⟨g',cap',cur,h',_,hh,_⟩
  · cases h'
  · cases h';exact⟨_,_,hh⟩
 obtain⟨C,fr,hrow⟩:=hrow;have hset:∀k,k≠g→k<w2.heap.size→(w2.setCell ⟨g,i*2,none⟩ S').heap[k]?=w2.heap[k]?:=fun k hk hl=>p2.block k hl fun e=>hk (by injection e)
 have hst:Steady 0 za7 w2 (w2.setCell ⟨g,i*2,none⟩ S'):=.setCell hrow (Nat.zero_le _) (by rintro(h | h) <;> cases h)
 have hsWw:Steady 0 za7 wz w':=⟨Nat.le_trans hz hg.size,fun k hk hp=>by
  have hkW:k<W.heap.size:=Nat.lt_of_lt_of_le hk hz;have hkw:=Nat.lt_of_lt_of_le hk h2.size;rw[hg.block k hkW fun e=>by have:=((k5 i hi).lt k e.symm).1;omega,hW.block k hkw];exact h2.row k hk hp⟩
 refine⟨upd X i S',Y,h1,(hsWw.trans (⟨hw2.size,fun k hk _=>hw2.block k hk (by simp)⟩:Steady 0 za7 w' w2)).trans hst,h3,?_,fun j hj=>?_,fun a ha b hb hab x hx=>?_,?_,fun a ha x hx=>?_⟩
 · rw[←zha hi];exact p1
 · by_cases e:j=i
   · subst e;rw[zan,zfk hli,if_pos rfl,List.length_append]
     exact yj fS fun k hk=>hset k (fun e=>by
      subst e;exact zaj f4 fS (by decide) k rfl hk) (fS.lt k hk).2
   · rw[kp _ _ e,zfk hli,if_neg (fun h=>e h.symm),List.append_nil];refine yj (h5 j hj) fun k hk=>?_
     have hl5:=(h5 j hj).lt k hk;have hkW:k<W.heap.size:=Nat.lt_of_lt_of_le hl5.2 hW.size;rw[hset k (fun e'=>by subst e';exact zaj h4 (h5 j hj) (by decide) k rfl hk) (Nat.lt_of_lt_of_le hkW (Nat.le_trans hg.size hw2.size)),hw2.block k (Nat.lt_of_lt_of_le hkW hg.size) (by simp),hg.block k hkW (fun e'=>h6 j hj i hi e k hk e'.symm),hW.block k hl5.2]
 · by_cases ea:a=i
   · subst ea;rw[zan] at hx;rw[kp _ _ (fun e=>hab e.symm)];intro hy;rcases hat x hx with h' | h'
     · exact h6 a ha b hb hab x h' hy
     · have:=((h5 b hb).lt x hy).2;have:=hW.size;omega
   · rw[kp _ _ ea] at hx;by_cases eb:b=i
     · subst eb;rw[zan];intro hy;rcases hat x hy with h' | h'
       · exact h6 a ha b hb hab x hx h'
       · have:=((h5 a ha).lt x hx).2;have:=hW.size;omega
     · rw[kp _ _ eb];exact h6 a ha b hb hab x hx
 · have hl7:=fun k hk=>h7.lt k hk
   refine yj h7 fun k hk=>?_
   have hkW:k<W.heap.size:=Nat.lt_of_lt_of_le (h7.lt k hk).2 hW.size;rw[hset k (fun e'=>by subst e';exact zaj h4 h7 (by decide) k rfl hk) (Nat.lt_of_lt_of_le hkW (Nat.le_trans hg.size hw2.size)),hw2.block k (Nat.lt_of_lt_of_le hkW hg.size) (by simp),hg.block k hkW (fun e'=>h8 i hi k e'.symm hk),hW.block k (h7.lt k hk).2]
 · by_cases ea:a=i
   · subst ea;rw[zan] at hx;intro hy;rcases hat x hx with h' | h'
     · exact h8 a ha x h' hy
     · have:=(h7.lt x hy).2;have:=hW.size;omega
   · rw[kp _ _ ea] at hx;exact h8 a ha x hx
end
section
open Go.ChangeShapes Go.WideShapes Go.RowKit Go.ChangeAt
abbrev LD:List (String×DataW Unit):=Rows.wireDecodesRow.laid
theorem zud {W:World} (h:laidMetH Tryz.prog LD W):laidMet Tryz.prog (LD.filter fun x=>x.2.handleName?.isNone) W∧handlesMet Tryz.prog [("errors.errorType",Rows.laid_errors_errorType)] W:=h
theorem zl7 {W:World} (h:laidMetH Tryz.prog LD W):Door W:=zrq (zud h).2
theorem zl8 (os:Os) (args:Array Value):laidMetH Tryz.prog LD ((zd4 os).forCall (fun _ _=>0) ⟨#[],args,[]⟩).memory:=
 laidMetH_of_parts (laidMet_of_run3 8 (by kernel_rfl) (by kernel_rfl) (by kernel_rfl)) (by kernel_rfl)
theorem zl9 {H:Type} {enc:TypeId×Value→H} {W:World} {fuel n cap:Nat} {a:Option Addr} {x:DataW H×List MemPlace} (h:DataW.trod enc Tryz.prog W 0 (fun _=>true) true fuel 22 (Value.slice a n cap).cells.toList=some x):∃l,Byts W a n cap l:=by
 rcases open_ints Tryz.underlying22 Tryz.underlying5 (by kernel_rfl) h with ⟨hcs,_⟩ | ⟨x,l,c,zs,hcs,_,hl,hm,hz,_,hcell,hwz⟩
 · simp[Value.cells] at hcs;obtain⟨rfl,rfl,rfl⟩:=hcs;exact⟨_,zi5 (.inl ⟨rfl,rfl,rfl,rfl⟩)⟩
 · simp[Value.cells] at hcs;obtain⟨rfl,rfl,rfl⟩:=hcs;exact⟨_,zi5 (.inr ⟨_,rfl,hl,hm,by simpa using hz,hcell,hwz⟩)⟩
set_option maxRecDepth 100000 in
theorem zma {H:Type} {enc:TypeId×Value→H} {W:World} {fuel:Nat} {v:Value} {x:DataW H×List MemPlace} (hv:∃cs,v=.agg cs∧cs.size=Tryz.prog.cellsOf 24)
 (h:DataW.trod enc Tryz.prog W 0 (fun _=>true) true fuel 24 v.cells.toList=some x):∃l:za,v=lmV l∧LimsI l:=by
 obtain⟨cs,rfl,hs⟩:=hv;have h5:Tryz.prog.cellsOf 24=5:=by kernel_rfl
 have h1:Tryz.prog.cellsOf 3=1:=by kernel_rfl
 rw[h5] at hs;obtain⟨l⟩:=cs;have hs':l.length=5:=hs;have h':DataW.trod enc Tryz.prog W 0 (fun _=>true) true fuel 24 l=some x:=h;obtain⟨xs,n,-,-,-,hxl,hf⟩:=DataW.trod_struct Tryz.underlying24 h'
 match xs,hxl,l,hs' with
 | [y0,y1,y2,y3,y4],_,[v0,v1,v2,v3,v4],_=>
  have g0:=hf 0 _ rfl;have g1:=hf 1 _ rfl;have g2:=hf 2 _ rfl;have g3:=hf 3 _ rfl;have g4:=hf 4 _ rfl;simp[h1] at g0 g1 g2 g3 g4;obtain⟨z0,e0,_,w0⟩:=DataW.trod_int Tryz.underlying3 g0;obtain⟨z1,e1,_,w1⟩:=DataW.trod_int Tryz.underlying3 g1;obtain⟨z2,e2,_,w2⟩:=DataW.trod_int Tryz.underlying3 g2;obtain⟨z3,e3,_,w3⟩:=DataW.trod_int Tryz.underlying3 g3;obtain⟨z4,e4,_,w4⟩:=DataW.trod_int Tryz.underlying3 g4;simp only[List.cons.injEq,and_true] at e0 e1 e2 e3 e4;subst e0 e1 e2 e3 e4;exact⟨(z0,z1,z2,z3,z4),rfl,⟨bounds_i64 w0,bounds_i64 w1,bounds_i64 w2,bounds_i64 w3,bounds_i64 w4⟩⟩
end
section
def kr (s:PS):Nat:=match s.tag with
 | 0=>0
 | 1=>(zh s.v).length
 | 2=>(zh s.v).length+1
 | 3=>(zh s.v).length+2
 | 4=>(zh s.v).length+3+2*s.h.length
 | 5=>(zh s.v).length+4+2*s.h.length
 | _=>(zh s.v).length
theorem zmb (v:Vec) (r m:Nat) (h:List Iv):(zh (v++[(r,m,h)])).length=(zh v).length+3+2*h.length:=by
 simp only[zh,List.length_cons,List.flatMap_append,List.length_append,List.flatMap_singleton,qy,zfa];omega
theorem zmc (s:PS) (k:Nat) (h:List Iv):kr (qn s k h)≤(zh s.v).length+3+2*h.length:=by
 unfold qn;split
 · exact Nat.le_refl _
 · split
   · simp only[kr];rw[zmb];exact Nat.le_refl _
   · simp only[kr];rw[zmb];exact Nat.le_refl _
theorem zmd {le lh:Int} {s s':PS} {x rest:Nat} (ht:s.tag<6) (h:zy le lh s x rest=.ok s'):kr s'≤kr s+1:=by
 obtain⟨tag,v,rep,mx,hh,ents,hls,lo⟩:=s;simp only at ht;rcases(by omega:tag=0∨tag=1∨tag=2∨tag=3∨tag=4∨tag=5) with rfl | rfl | rfl | rfl | rfl | rfl <;> simp only[zy] at h
 · split at h
   · cases h
   · split at h
     · cases h
     · cases h;exact Nat.le_refl _
 · cases hr:jv v x with
   | none=>rw[hr] at h;cases h
   | some r=>rw[hr] at h;cases h;exact Nat.le_refl _
 · cases h;exact Nat.le_refl _
 · split at h
   · cases h
   · cases h;exact zmc _ _ _
 · cases hr:loP (zp hh) 1 x with
   | none=>rw[hr] at h;cases h
   | some r=>rw[hr] at h;cases h;simp only[kr];omega
 · split at h
   · cases h;refine Nat.le_trans (zmc _ _ _) ?_;simp only[kr,List.length_append,List.length_cons,List.length_nil];omega
   · cases h
theorem zme {s:PS} (h:s.tag=6):kr s=(zh s.v).length:=by unfold kr;simp only[h]
structure RdJ (s:WS) (p:Nat):Prop where
 fit:WFit s p
 inv:WInv s
 tch:zck s
 tag:s.tag<4
 num:∀v∈s.vs,(zh v).length≤p
 cost:kr s.inner≤p
theorem RdJ.start:RdJ ws0 0:=⟨zts,zte,ztt,by decide,fun v h=>(by cases h),Nat.zero_le _⟩
theorem RdJ.mono {s:WS} {p q:Nat} (h:RdJ s p) (hp:p≤q):RdJ s q:=⟨h.fit.mono hp,h.inv,h.tch,h.tag,fun v hv=>Nat.le_trans (h.num v hv) hp,Nat.le_trans h.cost hp⟩
theorem zmf {E:Nat} {L:za} {s s':WS} {x p q:Nat} (hI:RdJ s p) (hpq:p<q) (h:ye E L s x p q=.ok s'):(∀v∈s'.vs,(zh v).length≤q)∧kr s'.inner≤q:=by
 have hm:=hI.mono (Nat.le_of_lt hpq)
 have fin:∀t:WS,t.vs=s.vs→t.inner=s.inner→∀t',jk E t q=.ok t'→(∀v∈t'.vs,(zh v).length≤q)∧kr t'.inner≤q:=fun t h1 h2 t' h=>by
  unfold jk at h;split at h
  · cases h
  · split at h
    · cases h
    · injection h with h;subst h;exact⟨by show ∀v∈t.vs,_;rw[h1];exact hm.num,by show kr t.inner≤q;rw[h2];exact hm.cost⟩
 have z0:kr ps0≤q:=Nat.zero_le _;by_cases h1:s.tag=1
 · obtain⟨i1,-⟩:=hI.inv.inner h1;unfold ye at h;simp only[h1] at h;split at h
   · cases h
   · rename_i i hi;have hi':=zmd i1 hi;have hc:=hI.cost;by_cases h6:i.tag=6
     · rw[if_pos h6] at h;rw[zme h6] at hi'
       have hvv:∀v∈s.vs++[i.v],(zh v).length≤q:=fun v hv=>by
        rcases List.mem_append.1 hv with h | h
        · exact hm.num v h
        · rw[List.mem_singleton] at h;subst h;omega
       split at h
       · cases h
       · split at h
         · injection h with h;subst h;exact⟨hvv,z0⟩
         · injection h with h;subst h;exact⟨hvv,z0⟩
     · rw[if_neg h6] at h;injection h with h;subst h;exact⟨hm.num,by show kr i≤q;omega⟩
 · unfold ye at h;split at h
   · split at h
     · cases h
     · split at h
       · injection h with h;subst h;exact⟨hm.num,hm.cost⟩
       · injection h with h;subst h;exact⟨hm.num,z0⟩
   · rename_i e;exact absurd e h1
   · split at h
     · cases h
     · split at h
       · exact fin _ rfl rfl _ h
       · injection h with h;subst h;exact⟨hm.num,hm.cost⟩
   · split at h
     · split at h
       · cases h
       · injection h with h;subst h;exact⟨hm.num,hm.cost⟩
     · split at h
       · injection h with h;subst h;exact⟨hm.num,hm.cost⟩
       · cases h
     · split at h
       · cases h
       · split at h
         · cases h
         · split at h
           · exact fin _ (by rfl) (by rfl) _ h
           · injection h with h;subst h;exact⟨hm.num,hm.cost⟩
   · injection h with h;subst h;exact⟨hm.num,hm.cost⟩
theorem RdJ.next {E:Nat} {L:za} {s s':WS} {x p q:Nat} (h:RdJ s p) (hx:x<18446744073709551616) (hpq:p<q) (hs:ye E L s x p q=.ok s') (h4:s'.tag<4):RdJ s' q:=
 ⟨zlx h.fit h.inv h.tag hx hpq hs,zhf h.inv h.tag hs,ztv h.tch h.inv h.tag hs,h4,(zmf h hpq hs).1,(zmf h hpq hs).2⟩
theorem RdJ.inner {L:za} {s:WS} {x p rest:Nat} (h:RdJ s p) (h1:s.tag=1) {i:PS} (hi:zy L.2.2.1 L.2.2.2.1 s.inner x rest=.ok i) (h6:i.tag=6):(zh i.v).length≤p+1:=by
 have:=zmd (h.inv.inner h1).1 hi;rw[zme h6] at this;have:=h.cost;omega
end
section
open Go.RowKit
attribute [local go_sem] yq
theorem zmg (g:Nat) (L:za) (nx V cu:Value) (s:PS) (k:Nat) (h:List Iv) (w:World) (hR:Row w g 282 (pkC L nx V s.ents k cu)) (he:0<s.ents) (he2:s.ents<18446744073709551616) (hk:k<18446744073709551616):
 Calls Tryz.prog 291 #[.pointer (some ⟨g,0,none⟩)] w fun e w'=>e=.returned (pkF g (qn s k h).tag)∧Row w' g 282 (pkC L nx V (qn s k h).ents (qn s k h).hls cu)∧w.grownBy w' (some g):=by
 obtain⟨tag,v,rep,mx,hh,ents,hls,lo⟩:=s;simp only at hR he he2;have q8:=hR.cell 8 rfl;have q9:=hR.cell 9 rfl;have z8:=hR.fz 8;have z9:=hR.fz 9;by_cases h0:0<k
 · have Hn:=hid (show qn ⟨tag,v,rep,mx,hh,ents,hls,lo⟩ k h=⟨4,v,rep,mx,h,ents,k - 1,lo⟩ from by unfold qn;rw[if_pos h0]);have e1:IntKind.u64.wrap ((k:Int) - 1)=((k - 1:Nat):Int):=by rw[IntKind.wrap_u64];omega
   have e2:(k:Int) - 1=((k - 1:Nat):Int):=by omega
   have HF:=hid (show Row (w.setCell ⟨g,9,none⟩ (.int .u64 ((k - 1:Nat):Int))) g 282 (pkC L nx V ents (k - 1) cu) from hR.set 9 _);rw[Hn.out];clear hR q8 z8 he he2;generalize k - 1=k1 at*;go_enter Tryz.func291,Tryz.ntmps291;go_wp2_with fail;go_ret;exact⟨rfl,HF.out,zm _ _ _ _⟩
 · obtain rfl:k=0:=by omega
   have e1:IntKind.u64.wrap ((ents - 1:Nat):Int)=((ents - 1:Nat):Int):=by rw[IntKind.wrap_u64];omega
   have e2:(ents:Int) - 1=((ents - 1:Nat):Int):=by omega
   have HF:=hid (show Row (w.setCell ⟨g,8,none⟩ (.int .u64 ((ents - 1:Nat):Int))) g 282 (pkC L nx V (ents - 1) 0 cu) from hR.set 8 _);by_cases h1:1<ents
   · have Hn:=hid (show qn ⟨tag,v,rep,mx,hh,ents,hls,lo⟩ 0 h=⟨1,v++[(rep,mx,h)],rep,mx,[],ents - 1,0,lo⟩ from by unfold qn;rw[if_neg (by omega),if_pos h1]);have h2:0<ents - 1:=by omega
     rw[Hn.out];clear hR he he2 h1;generalize ents - 1=e at*;go_enter Tryz.func291,Tryz.ntmps291;go_wp2_with fail;go_ret;exact⟨rfl,HF.out,zm _ _ _ _⟩
   · obtain rfl:ents=1:=by omega
     have Hn:=hid (show qn ⟨tag,v,rep,mx,hh,1,hls,lo⟩ 0 h=⟨6,v++[(rep,mx,h)],rep,mx,[],0,0,lo⟩ from by unfold qn;rw[if_neg (by omega),if_neg (by omega)];rfl);rw[Hn.out];clear hR he he2 h1 e1 e2;go_enter Tryz.func291,Tryz.ntmps291;go_wp2_with fail;go_ret;exact⟨rfl,HF.out,zm _ _ _ _⟩
theorem zmh {w:World} {base:Nat} {s:PS} {V cu:Value} {k:Nat} {h:List Iv} (hE:EntO w base V s.v s.rep s.mx h) (hC:CuAt w base cu none h) (hl:yi h):PkB w base (qn s k h) V cu:=by
 unfold qn;split
 · exact⟨hE,hC⟩
 · split
   · exact hE.close hl
   · exact hE.close hl
set_option maxRecDepth 20000 in
theorem zue (base g:Nat) (L:za) (nx:Value) (s:PS) (x rest:Nat) (w:World) (h:PkR w base g L nx s) (ht:s.tag=3) (hL:LimsI L) (hx:x<18446744073709551616) (hr:rest<9223372036854775808) (he:0<s.ents) (he2:s.ents<18446744073709551616):
 Calls Tryz.prog 273 #[.pointer (some ⟨g,0,none⟩),.int .u64 (x:Int),.int .i64 (rest:Int)] w (PkS w base g L (zy L.2.2.1 L.2.2.2.1 s x rest)):=by
 have hps:zy L.2.2.1 L.2.2.2.1 s x rest=if zo x L.2.2.2.1 rest≠0 then .error (zo x L.2.2.2.1 rest) else .ok (qn s x []):=by
  unfold zy;rw[ht];rfl
 rw[hps];clear hps;obtain⟨hg,V,cu,hR,hB⟩:=h;have hE:EntO w base V s.v s.rep s.mx []:=by unfold PkB at hB;rw[ht] at hB;exact hB
 have HL:=hid (zlz x L.2.2.2.1 rest w hx hL.d hr);have q3:=hR.cell 3 rfl;have HR:=hid hR;have Hg:=hid (show base≤w.heap.size by have:=hR.lt;omega);clear hB;by_cases hc:zo x L.2.2.2.1 rest=0
 · rw[hc] at HL;rw[if_neg (fun h=>h hc)];have HE:=hid hE;have HX:=hid hx;have He:=hid he;have He2:=hid he2;clear hc hx hr hR hE he he2 ht;go_enter Tryz.func273,Tryz.ntmps273;go_wp2_with fail;refine HL.out.mono ?_;rintro e w' ⟨rfl,rfl⟩;simp only[zda,if_true];go_wp2_with fail;refine(zli 1 w).mono ?_;rintro e w1 ⟨rfl,hc1,hb1⟩;have h1:=HR.out.later hb1;have p9:=h1.cell 9 rfl;have p10:=h1.cell 10 rfl;have z9:=h1.fz 9;have z10:=h1.fz 10;have h2:Row ((w1.setCell ⟨g,9,none⟩ (.int .u64 (x:Int))).setCell ⟨g,10,none⟩ (.pointer (some ⟨w.heap.size,0,none⟩))) g 282 (pkC L nx V s.ents x (.pointer (some ⟨w.heap.size,0,none⟩))):=(h1.set 9 _).set 10 _;have hgr:w1.grownBy ((w1.setCell ⟨g,9,none⟩ (.int .u64 (x:Int))).setCell ⟨g,10,none⟩ (.pointer (some ⟨w.heap.size,0,none⟩))) (some g):=zk (a:=⟨g,10,none⟩) (zk (a:=⟨g,9,none⟩) (y7 _ _) _ (.inr rfl)) _ (.inr rfl);have HC:=hid (hc1.grown hgr (fun e=>by injection e with e;have:=HR.out.lt;omega));have HE2:=hid ((HE.out.later hb1).grown (h1.notT (by rintro(h | h | h) <;> cases h)) hgr);have HH:=hid (zmg g L nx V (.pointer (some ⟨w.heap.size,0,none⟩)) s x [] _ h2 He.out He2.out HX.out);have HR2:=hid h2;have Hb:=hid (((hb1.mono Hg.out).setCell (p:=⟨g,9,none⟩) hg (.int .u64 (x:Int))).setCell (p:=⟨g,10,none⟩) hg (.pointer (some ⟨w.heap.size,0,none⟩)));clear h1 h2 hgr hc1 hb1 q3;go_wp2_with fail;refine HH.out.mono ?_;rintro e w4 ⟨rfl,hR4,hg4⟩;have HR4:=hid hR4;have hN:=HR2.out.notT (by rintro(h | h | h) <;> cases h);have HE4:=hid (HE2.out.grown hN hg4);have HC4:=hid (HC.out.grown hg4 (fun e=>by injection e with e;have:=HR.out.lt;omega));have Hb4:=hid (Hb.out.grown hg4 (by have:=Hb.out.size;have:=Hg.out;omega) (fun k hk=>by injection hk with hk;omega));clear hR4 hN hg4;generalize hnh:qn s x []=s' at*;have Hnh:=hid hnh;clear hnh;generalize hF:pkF g s'.tag=F at*;have HF:=hid hF;clear hF;go_wp2_with fail;go_ret2;refine⟨Hb4.out,nx,by rw[HF.out];rfl,hg,V,_,HR4.out,?_⟩;rw[←Hnh.out];exact zmh HE4.out ⟨w.heap.size,0,rfl,Hg.out,fun y h=>(by cases h),HC4.out⟩ (fun t h=>(by cases h))
 · rw[if_pos hc];have hcv:zda (zo x L.2.2.2.1 rest)=.iface 35 (.int .i64 ((zo x L.2.2.2.1 rest:Nat):Int)):=if_neg hc;rw[hcv] at HL;clear hc hx hr hR hcv hE he he2 ht;generalize zo x L.2.2.2.1 rest=c at*;go_enter Tryz.func273,Tryz.ntmps273;go_wp2_with fail;refine HL.out.mono ?_;rintro e w' ⟨rfl,rfl⟩;go_wp2_with fail;go_ret2;exact⟨Below.refl _ _,rfl,_,HR.out,rfl⟩
set_option maxRecDepth 20000 in
theorem zuf (base g:Nat) (L:za) (nx:Value) (s:PS) (x rest:Nat) (w:World) (h:PkR w base g L nx s) (ht:s.tag=4) (hx:x<18446744073709551616) (hl:yi s.h):
 Calls Tryz.prog 299 #[.pointer (some ⟨g,0,none⟩),.int .u64 (x:Int),.int .i64 (rest:Int)] w (PkS w base g L (zy L.2.2.1 L.2.2.2.1 s x rest)):=by
 obtain⟨tag,v,rep,mx,hh,ents,hls,lo⟩:=s;simp only at ht hl;subst ht;obtain⟨hg,V,cu,hR,hB⟩:=h;obtain⟨hE,c,y,rfl,hbc,-,hC⟩:EntO w base V v rep mx hh∧CuAt w base cu none hh:=hB;have hps:zy L.2.2.1 L.2.2.2.1 ⟨4,v,rep,mx,hh,ents,hls,lo⟩ x rest=match loP (zp hh) 1 x with | none=>.error 8 | some z=>.ok ⟨5,v,rep,mx,hh,ents,hls,z⟩:=rfl
 rw[hps];clear hps;have HL:=hid (zhh c 1 y x hh.getLast? w hC (fun s hs=>(hl s (List.mem_of_getLast? hs)).2) (by omega) hx);have q10:=hR.cell 10 rfl;have HR:=hid hR;have HE:=hid hE;have HC:=hid hC;have Hne:=hid (hR.ne hC (by decide));have Hbw:=hid (show base≤w.heap.size by have:=hR.lt;omega);clear hR hE hC hx hl;unfold zp
 cases hlo:loP (hh.getLast?.map (·.2)) 1 x with
 | none=>
  rw[hlo] at HL;clear hlo;go_enter Tryz.func299,Tryz.ntmps299;go_wp2_with fail;refine HL.out.mono ?_;rintro e w1 ⟨rfl,hc1,hg1⟩;have HR1:=hid (HR.out.grown hg1 (fun e=>Hne.out (by injection e)));have Hb:=hid ((Below.refl base w).grown hg1 Hbw.out (fun k hk=>by injection hk with hk;omega));clear hc1 hg1;go_wp2_with fail;go_ret2
  exact⟨Hb.out,rfl,_,HR1.out,rfl⟩
 | some z=>
  rw[hlo] at HL;clear hlo;go_enter Tryz.func299,Tryz.ntmps299;go_wp2_with fail;refine HL.out.mono ?_;rintro e w1 ⟨rfl,hc1,hg1⟩;have HR1:=hid (HR.out.grown hg1 (fun e=>Hne.out (by injection e)));have Hb:=hid ((Below.refl base w).grown hg1 Hbw.out (fun k hk=>by injection hk with hk;omega));have HE1:=hid (HE.out.grown (HC.out.notT (by rintro(h | h | h) <;> cases h)) hg1);have HC1:=hid hc1;clear hc1 hg1;go_wp2_with fail;go_ret2;exact⟨Hb.out,nx,rfl,hg,V,_,HR1.out,HE1.out,c,z,rfl,hbc,fun y h=>(by injection h),HC1.out⟩
end
section
open Go.RowKit
attribute [local go_sem] yq
theorem zmi {W:World} {base g:Nat} {L:za} {nx V cu:Value} {e h:Nat} {v:Vec} (hV:OwnV W base V v) (hR:Row W g 282 (pkC L nx V e h cu)) (hg:base≤g) (r:Nat) (hb:v.length+1≤1000000000000):
 ∃ge cp w',(Builtin.append_ #[95,95] 95 #[V,.slice (some ⟨W.heap.size,0,none⟩) 1 1]).run Tryz.prog (W.alloc (.cells #[.int .u64 ((r:Nat):Int),.int .u64 0,.slice none 0 0] 93))=.ok (.slice (some ⟨ge,0,none⟩) (v.length+1) cp) w'∧
  w'.cell? ⟨g,7,none⟩=some V∧w'.frozen? ⟨g,7,none⟩=false∧Below base W (w'.setCell ⟨g,7,none⟩ (.slice (some ⟨ge,0,none⟩) (v.length+1) cp))∧Row (w'.setCell ⟨g,7,none⟩ (.slice (some ⟨ge,0,none⟩) (v.length+1) cp)) g 282 (pkC L nx (.slice (some ⟨ge,0,none⟩) (v.length+1) cp) e h cu)∧EntO (w'.setCell ⟨g,7,none⟩ (.slice (some ⟨ge,0,none⟩) (v.length+1) cp)) base (.slice (some ⟨ge,0,none⟩) (v.length+1) cp) v r 0 []:=by
 have hal:Below W.heap.size W (W.alloc (.cells #[.int .u64 ((r:Nat):Int),.int .u64 0,.slice none 0 0] 93)):=(Below.refl _ _).alloc (Nat.le_refl _) _;have hbW:base≤W.heap.size:=by have:=hR.lt;omega
 obtain⟨V',w',hrun,hE,hgr,hk⟩:=(hV.below hal).open r (some ⟨W.heap.size,0,none⟩) 1 (kx (qj W (.cells #[.int .u64 ((r:Nat):Int),.int .u64 0,.slice none 0 0] 93) _ rfl) rfl rfl) hb (Nat.le_trans hbW hal.size)
 obtain⟨ge,cp,rfl,-⟩:=hE.at
 have hR1:=hR.later hal;obtain⟨ss,ho,-⟩:=hV.below hal;have hR2:Row w' g 282 (pkC L nx V e h cu):=hR1.grown hgr fun e'=>hR1.ne_own ho (by decide) g e'.symm rfl
 refine⟨ge,cp,w',hrun,hR2.cell 7 rfl,hR2.fz 7,?_,hR2.set 7 _,hE.grown (hR2.notT (by rintro(h | h | h) <;> cases h)) (zm _ _ _ _)⟩;exact(Below.grown (hal.mono hbW) hgr (Nat.le_trans hbW hal.size) hk).setCell (p:=⟨g,7,none⟩) hg _
theorem zug (x:Nat):jv [] x=some x:=rfl
theorem zuh {v:Vec} (h:0<v.length) (x:Nat):jv v x=if (zi v (v.length - 1)).1+1+x<18446744073709551616 then some ((zi v (v.length - 1)).1+1+x) else none:=by
 unfold jv;have hne:v≠[]:=fun e=>by rw[e] at h;cases h
 rw[List.getLast?_eq_getElem?,List.getElem?_eq_getElem (by omega),vz (by omega)]
set_option maxRecDepth 20000 in
theorem zui (base g:Nat) (L:za) (nx:Value) (s:PS) (x rest:Nat) (w:World) (h:PkR w base g L nx s) (ht:s.tag=1) (hx:x<18446744073709551616) (hlv:LtV s.v) (hl:s.v.length+1≤1000000000000):
 Calls Tryz.prog 231 #[.pointer (some ⟨g,0,none⟩),.int .u64 (x:Int),.int .i64 (rest:Int)] w (PkS w base g L (zy L.2.2.1 L.2.2.2.1 s x rest)):=by
 obtain⟨tag,v,rep,mx,hh,ents,hls,lo⟩:=s;simp only at ht hl hlv;subst ht;obtain⟨hg,V,cu,hR,hB⟩:=h;have hV:OwnV w base V v:=hB;have hps:zy L.2.2.1 L.2.2.2.1 ⟨1,v,rep,mx,hh,ents,hls,lo⟩ x rest=match jv v x with | none=>.error 8 | some r=>.ok ⟨2,v,r,mx,hh,ents,hls,lo⟩:=rfl
 rw[hps];clear hps hB;by_cases h0:v=[]
 · subst h0;obtain⟨a,c,rfl,-⟩:=hV.ents hlv;obtain⟨ge,cp,w',hrun,c7,f7,hb,hR',hE⟩:=zmi hV hR hg x hl;have q7:=hR.cell 7 rfl;rw[zug];have Hrun:=hid hrun;have HR:=hid hR';have HE:=hid hE;have Hb:=hid hb;clear hV hR hrun hR' hE hb hl hx hlv;simp only[List.length_nil] at*;go_enter Tryz.func231,Tryz.ntmps231;go_wp2_with (at_builtin;refine yv _ _ 95 rfl rfl _ _ rfl rfl _ _ Hrun.out ?_);go_ret2;exact⟨Hb.out,nx,rfl,hg,_,cu,HR.out,HE.out⟩
 · have hpos:0<v.length:=List.length_pos_iff.2 h0;obtain⟨a,c,rfl,hEn⟩:=hV.ents hlv;obtain⟨b,o,rfl,hcells⟩:=hEn.cells hpos;have hi:v.length - 1<v.length:=by omega
   have qe:=(hcells _ hi).1;have hrep:=(hlv _ (zc3 hi)).rep;rw[zuh hpos];generalize (zi v (v.length - 1)).1=y at*;have q7:=hR.cell 7 rfl
   have h64:∀z∈[y,1,x],z<18446744073709551616:=fun z hz=>by
    simp only[List.mem_cons,List.not_mem_nil,or_false] at hz;rcases hz with rfl | rfl | rfl <;> first | assumption | omega
   have H64:=hid h64;have hsum:[y,1,x].sum=y+1+x:=by simp only[List.sum_cons,List.sum_nil,Nat.add_zero,Nat.add_assoc]
   obtain⟨n,hn⟩:∃n,n=v.length:=⟨_,rfl⟩;have Hn:=hid hn;have HV:=hid hV;have HR:=hid hR;have Hl:=hid hl;have hn1:1≤n∧n≤1000000000000:=by omega
   rw[←hn] at qe q7;clear hcells hEn hi hrep h64 h0 hpos hx hlv hV hR hl hn;have e1:(n:Int) - 1=((n - 1:Nat):Int):=by omega
   by_cases hc:y+1+x<18446744073709551616
   · have hv:qm [y,1,x].sum=.tuple #[.int .u64 ((y+1+x:Nat):Int),.bool true]:=by rw[hsum];exact zd9 hc
     have HS:=hid (fun W hW=>zc9 [y,1,x] W w.heap.size 3 hW rfl H64.out (by omega) hv);rw[if_pos hc];clear hc hsum hv;generalize y+1+x=S at*;go_enter Tryz.func231,Tryz.ntmps231;go_wp2_with fail;refine(HS.out _ (by exact qj w _ _ rfl)).mono ?_;rintro e w1 ⟨rfl,hb1⟩;have hb2:Below w.heap.size w w1:=((Below.refl _ _).alloc (Nat.le_refl _) _).trans (hb1.mono (by simp));obtain⟨ge,cp,w',hrun,c7,f7,hb,hR',hE⟩:=zmi (HV.out.below hb2) (HR.out.later hb2) hg S Hl.out;have p7:=(HR.out.later hb2).cell 7 rfl;rw[←Hn.out] at hrun c7 hb hR' hE p7;have Hrun:=hid hrun;have HR':=hid hR';have HE:=hid hE;have Hb:=hid ((hb2.mono (show base≤w.heap.size by have:=HR.out.lt;omega)).trans hb);clear hrun hR' hE hb hb1 hb2 qe q7 HR HV;go_wp2_with (at_builtin;refine yv _ _ 95 rfl rfl _ _ rfl rfl _ _ Hrun.out ?_);go_ret2;exact⟨Hb.out,nx,rfl,hg,_,cu,HR'.out,HE.out⟩
   · have hv:qm [y,1,x].sum=.tuple #[.int .u64 0,.bool false]:=by rw[hsum];exact zea hc
     have HS:=hid (fun W hW=>zc9 [y,1,x] W w.heap.size 3 hW rfl H64.out (by omega) hv);rw[if_neg hc];clear hc hsum hv;go_enter Tryz.func231,Tryz.ntmps231;go_wp2_with fail;refine(HS.out _ (by exact qj w _ _ rfl)).mono ?_;rintro e w1 ⟨rfl,hb1⟩;have hb2:Below w.heap.size w w1:=((Below.refl _ _).alloc (Nat.le_refl _) _).trans (hb1.mono (by simp));have HR':=hid (HR.out.later hb2);have Hb:=hid (hb2.mono (show base≤w.heap.size by have:=HR.out.lt;omega));clear hb1 hb2 qe q7 HR HV;go_wp2_with fail;go_ret2;exact⟨Hb.out,rfl,_,HR'.out,rfl⟩
end
