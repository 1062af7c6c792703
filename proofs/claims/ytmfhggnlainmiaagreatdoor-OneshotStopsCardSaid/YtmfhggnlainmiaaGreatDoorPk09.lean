/- Part 09. -/
import Derived.Test.YtmfhggnlainmiaaGreatDoorPk08
set_option linter.unusedVariables false
namespace Go.Proofs.YtmfhggnlainmiaaGreatDoor
section
open Go.RowKit
theorem zr4 {k:Kno} (hc:CanK k):zdg (zaz k) 0:=by
 obtain⟨-,-,h3⟩:=zep k k.length (Nat.le_refl _);have hp:=List.pairwise_iff_getElem.1 (zxq hc);intro i hi;rw[ziv] at hi;rw[zoa hi];refine⟨(hc.items _ (yh (h3 _ (List.getElem_mem hi)).1)).1.ok _ (h3 _ (List.getElem_mem hi)).2,fun h0=>?_⟩;have:=(hp (i - 1) i (by omega) hi (by omega)).1;rw[zoa (by omega)];omega
theorem zod {k:Kno} {i:Nat} (h:i<(zk k).length):nth ((zk k).map (·.2)) i<k.length:=by
 obtain⟨-,-,h3⟩:=zep k k.length (Nat.le_refl _);have e:nth ((zk k).map (·.2)) i=(zk k)[i].2:=by simp[nth,h]
 rw[e];exact(h3 _ (List.getElem_mem h)).1
theorem zgq (l:List Iv) (x:List Nat):∀d,(vt l x d).length=1+3*d
 | 0=>rfl
 | d+1=>by rw[vt,List.length_append,zgq l x d];simp;omega
structure EncK (c:Kno):Prop where
 can:CanK c
 lt:LtK c
 vec:∀f∈c,VecFits f.2
 sum:yg c≤1000
 len:c.length≤1000
theorem zx0 {v:Vec} (h:LtV v) (hh:∀e∈v,e.2.2.length≤500) (hl:v.length≤340):∀d,d≤v.length→∀y∈jn v d,y<18446744073709551616
 | 0,_,y,hy=>by
   simp[jn] at hy;subst hy
   omega
 | d+1,hd,y,hy=>by
   rw[jn] at hy;rcases List.mem_append.1 hy with hy | hy
   · exact zx0 h hh hl d (by omega) y hy
   · exact zxx h hh hd y hy
theorem zoe {c:Kno} (hK:EncK c):∀x∈zn c,x<18446744073709551616:=by
 have hv:∀d,d≤c.length→∀x∈qv c d,x<18446744073709551616:=by
  intro d
  induction d with
  | zero=>
   intro _ x hx;simp[qv] at hx;subst hx;have:=hK.len
   omega
  | succ d ih=>
   intro hd x hx;rw[qv] at hx;rcases List.mem_append.1 hx with hx | hx
   · exact ih (by omega) x hx
   · have hm:=yh (show d<c.length from hd);have hf:=hK.vec _ hm;exact zx0 (hK.lt _ hm).vec hf.holes hf.len _ (Nat.le_refl _) x hx
 have hs:∀d,d≤(zk c).length→∀x∈vt ((zk c).map (·.1)) ((zk c).map (·.2)) d,x<18446744073709551616:=by
  obtain⟨-,-,h3⟩:=zep c c.length (Nat.le_refl _)
  have hll:(zk c).length≤1000:=by
   have:=zfv c c.length (Nat.le_refl _);rw[List.take_length] at this;have:=hK.sum;unfold zk;omega
  intro d
  induction d with
  | zero=>
   intro _ x hx;simp[vt] at hx;subst hx
   omega
  | succ d ih=>
   intro hd x hx;rw[vt] at hx
   have hlt:∀i,i<(zk c).length→(zb ((zk c).map (·.1)) i).1<18446744073709551616∧(zb ((zk c).map (·.1)) i).2<18446744073709551616:=fun i hi=>by
    have e:zb ((zk c).map (·.1)) i=(zk c)[i].1:=zoa hi;rw[e];exact(hK.lt _ (yh (h3 _ (List.getElem_mem hi)).1)).items _ (h3 _ (List.getElem_mem hi)).2
   rcases List.mem_append.1 hx with hx | hx
   · exact ih (by omega) x hx
   · simp at hx;have h1:=hlt d (by omega);rcases hx with rfl | rfl | rfl
     · unfold vz;split
       · exact(hlt 0 (by omega)).1
       · omega
     · omega
     · have:=zod (k:=c) (i:=d) (by omega);have:=hK.len;omega
 intro x hx;unfold zn at hx;rcases List.mem_append.1 hx with hx | hx
 · exact hv _ (Nat.le_refl _) x hx
 · exact hs _ (Nat.le_refl _) x hx
theorem Row.ne_own {w:World} {g base sz n:Nat} {T e:TypeId} {C xs:List Value} {V:Value} (h:Row w g T C) (ho:w.ownsRow base e sz V n xs) (hT:T≠e):∀k,V.ownBlock=some k→k≠g:=by
 intro k hk e';subst e';rcases ho.2 with ⟨rfl,_⟩ | ⟨b,cap,cur,rfl,_,hh,_⟩
 · cases hk
 · have e2:b=k:=by simpa [Value.ownBlock] using hk
   subst e2;unfold Row at h;rw[hh] at h;injection h with h;injection h with _ h _;exact hT h.symm
theorem zeb {w:World} {base base' sz sz' n n':Nat} {e e':TypeId} {V V':Value} {xs xs':List Value} (h:w.ownsRow base e sz V n xs) (h':w.ownsRow base' e' sz' V' n' xs') (hT:e≠e'):∀k,V.ownBlock=some k→V'.ownBlock≠some k:=by
 intro k hk hk';rcases h.2 with ⟨rfl,_⟩ | ⟨b,cap,cur,rfl,_,hh,_⟩
 · cases hk
 · rcases h'.2 with ⟨rfl,_⟩ | ⟨b',cap',cur',rfl,_,hh',_⟩
   · cases hk'
   · have e1:b=k:=by simpa [Value.ownBlock] using hk
     have e2:b'=k:=by simpa [Value.ownBlock] using hk'
     subst e1 e2;rw[hh] at hh';injection hh' with hh';injection hh' with _ hh' _;exact hT hh'
theorem Row.ne {w:World} {g g':Nat} {T T':TypeId} {C C':List Value} (h:Row w g T C) (h':Row w g' T' C') (hT:T≠T'):g≠g':=by
 intro e;subst e;unfold Row at h h';rw[h] at h';injection h' with h';injection h' with _ h' _;exact hT h'
def NotT (w:World) (g:Nat):Prop:=∀C T fr,w.heap[g]?=some (.cells C T fr)→¬jw T
theorem Row.notT {w:World} {g:Nat} {T:TypeId} {C:List Value} (h:Row w g T C) (hT:¬jw T):NotT w g:=by
 intro C' T' fr h';unfold Row at h;rw[h] at h';injection h' with h';injection h' with _ h' _;subst h';exact hT
theorem z96 {w:World} {g c:Nat} {es:Array MapEntry} (h:w.heap[g]?=some (.map es c)):NotT w g:=by
 intro C' T' fr h';rw[h] at h';injection h' with h';cases h'
theorem NotT.own {w:World} {g base sz n:Nat} {e:TypeId} {xs:List Value} {V:Value} (h:NotT w g) (ho:w.ownsRow base e sz V n xs) (hT:jw e):∀k,V.ownBlock=some k→k≠g:=by
 intro k hk e';subst e';rcases ho.2 with ⟨rfl,_⟩ | ⟨b,cap,cur,rfl,_,hh,_⟩
 · cases hk
 · have e2:b=k:=by simpa [Value.ownBlock] using hk
   subst e2;exact h _ _ _ hh hT
theorem zhm {w w':World} {g base:Nat} (h:NotT w g) (hb:base≤g) (hg:w.grownBy w' (some g)):Steady base jw w w':=⟨hg.size,fun k hk hp=>hg.block k hk fun e=>by
 injection e with e;subst e;rcases hp with h' | ⟨C,T,fr,hT,h'⟩
 · omega
 · exact h _ _ _ h' hT⟩
def zr5 (lim:Nat) (ss:List Value):Prop:=∀p n c,Value.slice (some p) n c∈ss→0<n→p.block<lim
theorem z97 {w:World} {v:Vec} {ss:List Value} (h:HolesT w 0 v ss):zr5 w.heap.size ss:=by
 intro p n c hm hn;obtain⟨i,hi,e⟩:=List.getElem_of_mem hm;obtain⟨a,m,d,h1,h2⟩:=h.2 i (by rw[←h.1];exact hi);rw[List.getElem?_eq_getElem hi,e] at h1;injection h1 with h1;injection h1 with h3 h4 h5;subst h3 h4;obtain⟨b,o,ha,hc⟩:=h2.ivs.cells hn;cases ha;exact zf (hc 0 hn).1
theorem zj3 {w w':World} {v:Vec} {ss:List Value} {lim:Nat} (h:HolesT w 0 v ss) (hB:zr5 lim ss) (hk:∀k,k<lim→k<w.heap.size→w'.heap[k]?=w.heap[k]?∨∃C T fr,T≠135∧w.heap[k]?=some (.cells C T fr)):HolesT w' 0 v ss:=by
 refine⟨h.1,fun i hi=>?_⟩;obtain⟨a,n,c,h1,h2⟩:=h.2 i hi;refine⟨a,n,c,h1,zxc h2 fun hn p hp hw=>?_⟩;subst hp;rcases hk p.block (hB p n c (List.mem_of_getElem? h1) hn) hw with h3 | ⟨C,T,fr,hT,h3⟩
 · exact h3
 · rcases h2.row hn p rfl with h4 | ⟨C',fr',h4⟩
   · omega
   · rw[h3] at h4;injection h4 with h4;injection h4 with _ h4 _;exact absurd h4 hT
def EntO (w:World) (base:Nat) (V:Value) (v:Vec) (r m:Nat) (h:List Iv):Prop:=
 ∃lim ss S,base≤lim∧lim≤w.heap.size∧w.ownsRow base 137 3 V (v.length+1) (zcp v ss++[.int .u64 ((r:Nat):Int),.int .u64 ((m:Nat):Int),S])∧HolesT w 0 v ss∧zr5 lim ss∧w.ownsRow lim 135 2 S h.length (ivC h)
theorem EntO.later {w w':World} {base:Nat} {V:Value} {v:Vec} {r m:Nat} {h:List Iv} (hE:EntO w base V v r m h) (hb:Below w.heap.size w w'):EntO w' base V v r m h:=by
 obtain⟨lim,ss,S,h1,h2,h3,h4,h5,h6⟩:=hE;exact⟨lim,ss,S,h1,Nat.le_trans h2 hb.size,zm h3 hb,zj3 h4 h5 fun k _ hk=>.inl (hb.block k hk),h5,zm h6 hb⟩
theorem EntO.grown {w w':World} {base g:Nat} {V:Value} {v:Vec} {r m:Nat} {h:List Iv} (hE:EntO w base V v r m h) (hN:NotT w g) (hg:w.grownBy w' (some g)):EntO w' base V v r m h:=by
 obtain⟨lim,ss,S,h3,h4,h5,h6,h7,h8⟩:=hE;refine⟨lim,ss,S,h3,Nat.le_trans h4 hg.size,vh h5 fun k hk=>hg.block k (h5.lt k hk).2 fun e=>hN.own h5 (.inr (.inl rfl)) k hk (by injection e),h6.steady (zhm hN (Nat.zero_le _) hg) (.inl rfl),h7,vh h8 fun k hk=>hg.block k (h8.lt k hk).2 fun e=>hN.own h8 (.inl rfl) k hk (by injection e)⟩
theorem OwnV.grown {w w':World} {base g:Nat} {V:Value} {v:Vec} (hE:OwnV w base V v) (hN:NotT w g) (hg:w.grownBy w' (some g)):OwnV w' base V v:=by
 obtain⟨ss,h5,h6⟩:=hE;exact⟨ss,vh h5 fun k hk=>hg.block k (h5.lt k hk).2 fun e=>hN.own h5 (.inr (.inl rfl)) k hk (by injection e),h6.steady (zhm hN (Nat.zero_le _) hg) (.inl rfl)⟩
theorem EntO.at {w:World} {base:Nat} {V:Value} {v:Vec} {r m:Nat} {h:List Iv} (hE:EntO w base V v r m h):∃g cap,V=.slice (some ⟨g,0,none⟩) (v.length+1) cap∧base≤g∧g<w.heap.size∧(∃C fr,w.heap[g]?=some (.cells C 137 fr))∧w.cell? ⟨g,v.length*3,none⟩=some (.int .u64 ((r:Nat):Int))∧w.cell? ⟨g,v.length*3+1,none⟩=some (.int .u64 ((m:Nat):Int))∧
 (∀j,w.frozen? ⟨g,j,none⟩=false)∧∃S lim,w.cell? ⟨g,v.length*3+2,none⟩=some S∧base≤lim∧w.ownsRow lim 135 2 S h.length (ivC h):=by
 obtain⟨lim,ss,S,h1,h2,h3,h4,h5,h6⟩:=hE;obtain⟨g,cap,rfl,hg,hgl,hn,hm⟩:=zcz h3 (Nat.succ_pos _);have hl:=znv h4.1
 have get:∀j u,[Value.int .u64 ((r:Nat):Int),.int .u64 ((m:Nat):Int),S][j]?=some u→w.cell? ⟨g,v.length*3+j,none⟩=some u:=fun j u hu=>by
  have:=h3.cells (g:=g) rfl (v.length*3+j) u (by rw[List.getElem?_append_right (by omega),hl,Nat.add_sub_cancel_left];exact hu);rw[qg,Nat.zero_add] at this;exact this
 refine⟨g,cap,rfl,hg,hgl,?_,get 0 _ rfl,get 1 _ rfl,fun j=>h3.frozenAt j,S,lim,get 2 _ rfl,h1,h6⟩;rcases h3.2 with ⟨h',_⟩ | ⟨g',cap',cur,h',_,hh,_⟩
 · cases h'
 · cases h';exact⟨_,_,hh⟩
theorem EntO.max {w:World} {base g cap:Nat} {v:Vec} {r m:Nat} {h:List Iv} (hE:EntO w base (.slice (some ⟨g,0,none⟩) (v.length+1) cap) v r m h) (m':Nat):EntO (w.setCell ⟨g,v.length*3+1,none⟩ (.int .u64 ((m':Nat):Int))) base (.slice (some ⟨g,0,none⟩) (v.length+1) cap) v r m' h:=by
 obtain⟨lim,ss,S,h1,h2,h3,h4,h5,h6⟩:=hE;have hl:=znv h4.1;obtain⟨k1,k2⟩:=h3.stored (v.length*3+1) (.int .u64 ((m':Nat):Int));rw[List.set_append_right _ _ (by omega),hl,Nat.add_sub_cancel_left] at k1
 have hr:∃C fr,w.heap[g]?=some (.cells C 137 fr):=by
  rcases h3.2 with ⟨h',_⟩ | ⟨g',cap',cur,h',_,hh,_⟩
  · cases h'
  · cases h';exact⟨_,_,hh⟩
 obtain⟨C,fr,hr⟩:=hr;refine⟨lim,ss,S,h1,by simpa using h2,k1,zj3 h4 h5 fun k _ hk=>?_,h5,vh h6 fun k hk=>k2.block k (h6.lt k hk).2 fun e=>zeb h3 h6 (by decide) g rfl (by injection e with e;subst e;exact hk)⟩;by_cases e:k=g
 · subst e;exact .inr ⟨C,137,fr,by decide,hr⟩
 · exact .inl (k2.block k hk fun e'=>e (by injection e'))
theorem EntO.hole {w:World} {base g cap:Nat} {v:Vec} {r m:Nat} {h:List Iv} (hE:EntO w base (.slice (some ⟨g,0,none⟩) (v.length+1) cap) v r m h) {S:Value} (hS:w.cell? ⟨g,v.length*3+2,none⟩=some S) (s:Iv) (W:World) (hW:Below w.heap.size w W) (A:Option Addr) (c:Nat) (hr:Rd W 2 A 1 (ivC [s])) (hb:h.length+1≤1000000000000):
 ∃S' w',(Builtin.append_ #[123,123] 123 #[S,.slice A 1 c]).run Tryz.prog W=.ok S' w'∧(∃gS cS,S'=.slice (some ⟨gS,0,none⟩) (h.length+1) cS)∧Below base W w'∧W.heap.size≤w'.heap.size∧w'.cell? ⟨g,v.length*3+2,none⟩=some S∧w'.frozen? ⟨g,v.length*3+2,none⟩=false∧W.grownBy w' S.ownBlock∧(∀k,S.ownBlock=some k→base≤k∧∃C fr,W.heap[k]?=some (.cells C 135 fr))∧
  ∀w2,w'.grownBy w2 none→EntO (w2.setCell ⟨g,v.length*3+2,none⟩ S') base (.slice (some ⟨g,0,none⟩) (v.length+1) cap) v r m (h++[s]):=by
 have hE':=hE.later hW;obtain⟨lim,ss,S0,h1,h2,h3,h4,h5,h6⟩:=hE;have hl:=znv h4.1
 have e0:S0=S:=by
  have:=h3.cells (g:=g) rfl (v.length*3+2) S0 (by rw[List.getElem?_append_right (by omega),hl,Nat.add_sub_cancel_left];rfl);rw[qg,Nat.zero_add,hS] at this;injection this with this;exact this.symm
 subst e0;have k3:=zm h3 hW;have k6:=zm h6 hW;have k4:HolesT W 0 v ss:=zj3 h4 h5 fun k _ hk=>.inl (hW.block k hk)
 obtain⟨S',w',hrun,ho,hg,hat⟩:=zob lim S0 h.length h k6 A c s hr hb (Nat.le_trans h2 hW.size);have hne:S0.ownBlock≠some g:=fun e=>zeb k3 k6 (by decide) g rfl e
 have e3:w'.ownsRow base 137 3 (.slice (some ⟨g,0,none⟩) (v.length+1) cap) (v.length+1) (zcp v ss++[.int .u64 ((r:Nat):Int),.int .u64 ((m:Nat):Int),S0]):=vh k3 fun k hk=>by
  have e:g=k:=by simpa [Value.ownBlock] using hk
  subst e;exact hg.block g (k3.lt g rfl).2 fun e=>hne e.symm
 have e4:HolesT w' 0 v ss:=zj3 k4 h5 fun k hk hw=>.inl (hg.block k hw fun e=>by
  have:=(k6.lt k e.symm).1;omega)
 have hat2:∀k,S0.ownBlock=some k→base≤k∧∃C fr,W.heap[k]?=some (.cells C 135 fr):=fun k hk=>⟨Nat.le_trans h1 (k6.lt k hk).1,by
  rcases k6.2 with ⟨rfl,_⟩ | ⟨b,cap',cur,rfl,_,hh,_⟩
  · cases hk
  · have e:b=k:=by simpa [Value.ownBlock] using hk
    subst e;exact⟨_,_,hh⟩⟩
 have hcell:w'.cell? ⟨g,v.length*3+2,none⟩=some S0:=by
  have:=e3.cells (g:=g) rfl (v.length*3+2) S0 (by rw[List.getElem?_append_right (by omega),hl,Nat.add_sub_cancel_left];rfl);rw[qg,Nat.zero_add] at this;exact this
 obtain⟨gS,cS,eS,-⟩:=zcz ho (Nat.succ_pos _);refine⟨S',w',hrun,⟨gS,cS,eS⟩,⟨hg.os,hg.tape,hg.output,hg.size,fun k hk=>hg.block k (by have:=hW.size;omega) fun e=>by have:=(hat2 k e.symm).1;omega⟩,hg.size,hcell,e3.frozenAt _,hg,hat2,fun w2 h2'=>?_⟩;have f3:w2.ownsRow base 137 3 (.slice (some ⟨g,0,none⟩) (v.length+1) cap) (v.length+1) (zcp v ss++[.int .u64 ((r:Nat):Int),.int .u64 ((m:Nat):Int),S0]):=vh e3 fun k hk=>h2'.block k (e3.lt k hk).2 (by simp)
 have f6:w2.ownsRow lim 135 2 S' (h.length+1) (ivC (h++[s])):=vh ho fun k hk=>h2'.block k (ho.lt k hk).2 (by simp)
 have f4:HolesT w2 0 v ss:=zj3 e4 h5 fun k _ hk=>.inl (h2'.block k hk (by simp))
 obtain⟨k1,k2⟩:=f3.stored (v.length*3+2) S';rw[List.set_append_right _ _ (by omega),hl,Nat.add_sub_cancel_left] at k1
 have hrow:∃C fr,w2.heap[g]?=some (.cells C 137 fr):=by
  rcases f3.2 with ⟨h',_⟩ | ⟨g',cap',cur,h',_,hh,_⟩
  · cases h'
  · cases h';exact⟨_,_,hh⟩
 obtain⟨C,fr,hrow⟩:=hrow;refine⟨lim,ss,S',h1,Nat.le_trans h2 (Nat.le_trans hW.size (Nat.le_trans hg.size (Nat.le_trans h2'.size k2.size))),k1,zj3 f4 h5 fun k _ hk=>?_,h5,?_⟩
 · by_cases e:k=g
   · subst e;exact .inr ⟨C,137,fr,by decide,hrow⟩
   · exact .inl (k2.block k hk fun e'=>e (by injection e'))
 · have hne2:∀k,S'.ownBlock=some k→k≠g:=fun k hk e=>zeb f3 f6 (by decide) g rfl (by rw[←e];exact hk)
   have f7:=vh (w':=w2.setCell ⟨g,v.length*3+2,none⟩ S') f6 fun k hk=>k2.block k (f6.lt k hk).2 fun e=>hne2 k hk (by injection e)
   have e7:(h++[s]).length=h.length+1:=by simp
   rw[e7];exact f7
theorem EntO.close {w:World} {base:Nat} {V:Value} {v:Vec} {r m:Nat} {h:List Iv} (hE:EntO w base V v r m h) (hl:zo h):OwnV w base V (v++[(r,m,h)]):=by
 obtain⟨lim,ss,S,h1,h2,h3,h4,h5,h6⟩:=hE;obtain⟨a,c,rfl,hI⟩:=ze3 (base':=0) h6 hl;refine⟨ss++[.slice a h.length c],?_,h4.snoc (e:=(r,m,h)) hI⟩;rw[znw h4.1,List.length_append];exact h3
theorem OwnV.open {w:World} {base:Nat} {V:Value} {v:Vec} (hV:OwnV w base V v) (r:Nat) (A:Option Addr) (c:Nat) (hr:Rd w 3 A 1 [.int .u64 ((r:Nat):Int),.int .u64 0,.slice none 0 0]) (hb:v.length+1≤1000000000000) (hbase:base≤w.heap.size):
 ∃V' w',(Builtin.append_ #[125,125] 125 #[V,.slice A 1 c]).run Tryz.prog w=.ok V' w'∧EntO w' base V' v r 0 []∧w.grownBy w' V.ownBlock∧(∀k,V.ownBlock=some k→base≤k):=by
 obtain⟨ss,ho,hh⟩:=hV;obtain⟨V',w',h1,h2,h3⟩:=zcf base _ _ _ _ 3 40 Tryz.underlying125 Tryz.info_ent rfl (by omega) V v.length _ ho A 1 c _ hr (by simp[Value.oneCell']) (by unfold maxLen;omega) (by omega) hbase;have hs:Steady base zde w w':=.grown ho h3 (show ¬(137:TypeId)=135 by decide);exact⟨V',w',h1,⟨w.heap.size,ss,.slice none 0 0,hbase,h3.size,h2,hh.steady (hs.lower (Nat.zero_le _)) rfl,z97 hh,World.ownsRow_nil _ _ _ _⟩,h3,fun k hk=>(ho.lt k hk).1⟩
end
section
def zL (ix:List Nat):List Int:=ix.map fun (n:Nat)=>(n:Int)
def za5 (ix:List Nat):Nat→Nat
 | 0=>0
 | n+1=>za5 ix n+if n∈ix then 1 else 0
theorem zr6 (ix:List Nat):∀N,za5 ix N≤N
 | 0=>Nat.le_refl _
 | n+1=>by have:=zr6 ix n;rw[za5];split <;> omega
theorem zx1 {ix:List Nat} {i:Nat}:∀{N:Nat},N≤i→za5 (ix++[i]) N=za5 ix N
 | 0,_=>rfl
 | n+1,h=>by
   rw[za5,za5,zx1 (by omega)];congr 1
   have e:n∈ix++[i]↔n∈ix:=by
    rw[List.mem_append,List.mem_singleton];exact⟨fun h'=>h'.resolve_right (by omega),.inl⟩
   simp only[e]
theorem zx2 {ix:List Nat} {i:Nat}:∀{N:Nat},i<N→za5 (ix++[i]) N=za5 ix N+if i∈ix then 0 else 1
 | n+1,h=>by
   rw[za5,za5];by_cases e:i=n
   · subst e;rw[zx1 (Nat.le_refl _),if_pos (by simp)];by_cases h2:i∈ix
     · rw[if_pos h2,if_pos h2]
     · rw[if_neg h2,if_neg h2]
   · rw[zx2 (by omega)]
     have e2:n∈ix++[i]↔n∈ix:=by
      rw[List.mem_append,List.mem_singleton];exact⟨fun h'=>h'.resolve_right (fun h=>e h.symm),.inl⟩
     simp only[e2];omega
theorem zx3 (ix:List Nat):∀N,za5 ix N<N↔∃i,i<N∧i∉ix
 | 0=>⟨fun h=>by omega,fun ⟨i,h,_⟩=>by omega⟩
 | n+1=>by
   have ih:=zx3 ix n;have hle:=zr6 ix n;rw[za5];constructor
   · intro h;by_cases hn:n∈ix
     · rw[if_pos hn] at h;obtain⟨i,h1,h2⟩:=ih.1 (by omega);exact⟨i,by omega,h2⟩
     · exact⟨n,by omega,hn⟩
   · rintro⟨i,h1,h2⟩;by_cases e:i=n
     · subst e;rw[if_neg h2];omega
     · have:=ih.2 ⟨i,by omega,h2⟩;split <;> omega
theorem zlm {ix:List Nat} {t:Nat} (h:t<ix.length):ze6 (zL ix) t=((ix[t]:Nat):Int):=by
 rw[zn8 (by simpa [zL] using h)];simp[zL]
theorem zr7 {l:List Iv} {ix:List Int} {i:Nat}:∀{d:Nat},itB l ix i d=[]↔∀t,t<d→ze6 ix t≠(i:Int)
 | 0=>⟨fun _ t h=>by omega,fun _=>rfl⟩
 | d+1=>by
   rw[itB];constructor
   · intro h t ht;obtain⟨h1,h2⟩:=List.append_eq_nil_iff.1 h;by_cases e:t=d
     · subst e;intro h3;rw[if_pos h3] at h2;cases h2
     · exact zr7.1 h1 t (by omega)
   · intro h;rw[zr7.2 (fun t ht=>h t (by omega)),if_neg (h d (by omega))]
     rfl
def itN (l:List Iv) (ix:List Nat) (i:Nat):List Iv:=itB l (zL ix) i l.length
theorem zx4 {l:List Iv} {ix:List Nat} (h:ix.length=l.length) (i:Nat):itN l ix i=[]↔i∉ix:=by
 unfold itN;rw[zr7];constructor
 · intro h1 hm;obtain⟨t,ht,e⟩:=List.getElem_of_mem hm;exact h1 t (by omega) (by rw[zlm ht,e])
 · intro h1 t ht e;rw[zlm (by omega)] at e;exact h1 (by rw[show i=ix[t]'(by omega) by omega];exact List.getElem_mem _)
theorem zgr {vs:List Vec} {l:List Iv} {ix:List Nat}:qj vs l ix=(List.range vs.length).map fun i=>(itN l ix i,kd vs i):=rfl
theorem z98 {vs:List Vec} {l:List Iv} {ix:List Nat} (h:ix.length=l.length):(∃f∈qj vs l ix,f.1=[])↔za5 ix vs.length<vs.length:=by
 rw[zx3,zgr];constructor
 · rintro⟨f,hf,h1⟩;obtain⟨i,hi,rfl⟩:=List.mem_map.1 hf;exact⟨i,List.mem_range.1 hi,(zx4 h i).1 h1⟩
 · rintro⟨i,h1,h2⟩;exact⟨_,List.mem_map.2 ⟨i,List.mem_range.2 h1,rfl⟩,(zx4 h i).2 h2⟩
theorem zx5 {l:List Iv} {ix:List Nat} {s:Iv} {x i:Nat} (h:ix.length=l.length):∀d,d≤l.length→itB (l++[s]) (zL (ix++[x])) i d=itB l (zL ix) i d
 | 0,_=>rfl
 | d+1,hd=>by
   rw[itB,itB,zx5 h d (by omega),zlm (by simp;omega),zlm (by omega),List.getElem_append_left (by omega)];have e:zb (l++[s]) d=zb l d:=by simp[zb,List.getElem?_append_left (show d<l.length by omega)]
   rw[e]
theorem zof {l:List Iv} {ix:List Nat} {s:Iv} {x:Nat} (h:ix.length=l.length) (i:Nat):itN (l++[s]) (ix++[x]) i=itN l ix i++if x=i then [s] else []:=by
 unfold itN;rw[show (l++[s]).length=l.length+1 by simp,itB,zx5 h _ (Nat.le_refl _)];have e:zb (l++[s]) l.length=s:=by simp[zb]
 have e2:ze6 (zL (ix++[x])) l.length=(x:Int):=by
  rw[zlm (by simp;omega),List.getElem_append_right (by omega)];simp
 rw[e,e2];congr 1;by_cases hx:x=i
 · rw[if_pos hx,if_pos (by omega)]
 · rw[if_neg hx,if_neg (by omega)]
abbrev zc:=Int×Int×Int×Int×Int
structure WS where
 tag:Nat
 vs:List Vec
 l:List Iv
 ix:List Nat
 left:Nat
 frm:Nat
 inner:PS
 turn:Nat
 lo:Nat
 hi:Nat
 tch:Bool
def ws0:WS:=⟨0,[],[],[],0,0,ps0,0,0,0,false⟩
def zbn (E:Nat) (s:WS) (next:Nat):Except (Nat×Nat) WS:=
 if (∃f∈qj s.vs s.l s.ix,f.1=[]) then .error (10,next) else if next<E then .error (11,next) else .ok { s with tag:=4 }
def zbd (s:WS) (p:Nat):Nat:=if s.inner.tag=0 then p else s.frm
def jd (E:Nat) (L:zc) (s:WS) (x p q:Nat):Except (Nat×Nat) WS:=
 match s.tag with
 | 0=>if ql x L.2.1 (E - q)≠0 then .error (ql x L.2.1 (E - q),p) else if x=0 then .ok { s with tag:=2 } else .ok { s with tag:=1,left:=x,inner:=ps0 }
 | 1=>match jm L.2.2.1 L.2.2.2.1 s.inner x (E - q) with
   | .error c=>.error (c,p)
   | .ok i=>if i.tag=6 then
      if za4 s.vs i.v=true then .error (3,zbd s p) else if s.left=1 then .ok { s with tag:=2,vs:=s.vs++[i.v],left:=0,inner:=ps0 } else .ok { s with vs:=s.vs++[i.v],left:=s.left - 1,inner:=ps0 }
     else .ok { s with frm:=zbd s p,inner:=i }
 | 2=>if ql x L.2.2.2.2 (E - q)≠0 then .error (ql x L.2.2.2.2 (E - q),p) else if x=0 then zbn E s q else .ok { s with tag:=3,left:=x,turn:=0 }
 | 3=>match s.turn with
   | 0=>match loP (qr s.l) 0 x with | none=>.error (8,p) | some lo=>.ok { s with turn:=1,lo:=lo,tch:=zc1 s.l lo }
   | 1=>if s.lo+x<18446744073709551616 then .ok { s with turn:=2,hi:=s.lo+x } else .error (8,p)
   | _=>if s.vs.length≤x then .error (8,p) else if s.tch=true∧s.ix.getLast?=some x then .error (10,p) else
     if s.left=1 then zbn E { s with l:=s.l++[(s.lo,s.hi)],ix:=s.ix++[x],left:=0,turn:=0 } q
     else .ok { s with l:=s.l++[(s.lo,s.hi)],ix:=s.ix++[x],left:=s.left - 1,turn:=0 }
 | _=>.ok s
def zcb (T:ye) (E:Nat) (L:zc) (s:WS) (p:Nat):RR Kno:=
 match s.tag with
 | 0=>jc T E L p
 | 1=>thn (zhl T E L.2.2.1 L.2.2.2.1 s.inner p) fun v q=>if za4 s.vs v=true then .error (3,zbd s p) else thn (kg T E L.2.2.1 L.2.2.2.1 (s.left - 1) (s.vs++[v]) q) fun vs q=>zc2 T E L.2.2.2.2 vs q
 | 2=>zc2 T E L.2.2.2.2 s.vs p
 | 3=>match s.turn with
   | 0=>thn (vv T s.vs.length s.left s.l s.ix p) fun r q=>zbq E (qj s.vs r.1 r.2) q
   | 1=>thn (hiP T s.lo p) fun i q=>zdw T s.vs.length s.tch s.ix q fun x r=>thn (vv T s.vs.length (s.left - 1) (s.l++[i.1]) (s.ix++[x]) r) fun r q=>zbq E (qj s.vs r.1 r.2) q
   | _=>zdw T s.vs.length s.tch s.ix p fun x r=>thn (vv T s.vs.length (s.left - 1) (s.l++[(s.lo,s.hi)]) (s.ix++[x]) r) fun r q=>zbq E (qj s.vs r.1 r.2) q
 | _=>.ok (qj s.vs s.l s.ix,p)
structure WInv (s:WS):Prop where
 tag:s.tag≤4
 turn:s.turn≤2
 left:s.tag=1∨s.tag=3→0<s.left
 inner:s.tag=1→s.inner.tag<6∧(1≤s.inner.tag→0<s.inner.ents)
 fresh:s.tag=0→s.vs=[]
 none:s.tag<3→s.l=[]∧s.ix=[]
theorem zx6 (T:ye) (E:Nat) (L:zc) (s:WS) (q:Nat):(match zbn E s q with | .error e=>.error e | .ok s'=>zcb T E L s' q)=zbq E (qj s.vs s.l s.ix) q:=by
 unfold zbn zbq;by_cases h:∃f∈qj s.vs s.l s.ix,f.1=[]
 · rw[if_pos h,if_pos h]
 · rw[if_neg h,if_neg h];by_cases h1:q<E
   · rw[if_pos h1,if_pos h1]
   · rw[if_neg h1,if_neg h1];rfl
theorem z99 {α β:Type} (T:ye) (N:Nat) (tch:Bool) (ix:List Nat) (q:Nat) (f:Nat→Nat→RR α) (g:α→Nat→RR β):thn (zdw T N tch ix q f) g=zdw T N tch ix q fun x r=>thn (f x r) g:=by
 unfold zdw;rw[zbc];refine zca fun x r=>?_
 split
 · rfl
 · split <;> rfl
theorem yaa (T:ye) (E:Nat) (le lh:Int) (i:PS) (q:Nat) (h:i.tag=6):zhl T E le lh i q=.ok (i.v,q):=by
 obtain⟨tag,v,rep,mx,hh,ents,hls,lo⟩:=i;simp only at h;subst h
 rfl
theorem zr8 (T:ye) (E:Nat) (L:zc) (s:WS) (p:Nat) (hI:WInv s) (h4:s.tag<4):
 zcb T E L s p=thn (nmP T p) fun x q=>match jd E L s x p q with | .error e=>.error e | .ok s'=>zcb T E L s' q:=by
 obtain⟨h1,h2,h3,hin,hfr,hno⟩:=hI;obtain⟨tag,vs,l,ix,left,frm,inner,turn,lo,hi,tch⟩:=s;simp only at h1 h2 h3 hin h4 hfr hno;rcases(by omega:tag=0∨tag=1∨tag=2∨tag=3) with rfl | rfl | rfl | rfl
 · have:=hfr rfl;subst this;show thn (jf T E L.2.1 p) (fun n q=>thn (kg T E L.2.2.1 L.2.2.2.1 n [] q) fun vs q=>zc2 T E L.2.2.2.2 vs q)=_;unfold jf;rw[zbc];refine zca fun x q=>?_
   simp only[jd];by_cases hc:ql x L.2.1 (E - q)=0
   · rw[if_pos hc,if_neg (fun h=>h hc),ja];by_cases hx:x=0
     · rw[if_pos hx];subst hx;rfl
     · rw[if_neg hx];obtain⟨n,rfl⟩:∃n,x=n+1:=⟨x - 1,by omega⟩;show _=thn (za3 T E L.2.2.1 L.2.2.2.1 q) (fun v r=>if za4 [] v=true then .error (3,q) else thn (kg T E L.2.2.1 L.2.2.2.1 (n+1 - 1) ([]++[v]) r) fun vs q=>zc2 T E L.2.2.2.2 vs q);rw[kg,zbc];refine zca fun v r=>?_
       rfl
   · rw[if_neg hc,if_pos hc,zea]
 · obtain⟨i1,i2⟩:=hin rfl;have hl:=h3 (.inl rfl);show thn (zhl T E L.2.2.1 L.2.2.2.1 inner p) (fun v q=>if za4 vs v=true then .error (3,if inner.tag=0 then p else frm) else thn (kg T E L.2.2.1 L.2.2.2.1 (left - 1) (vs++[v]) q) fun vs q=>zc2 T E L.2.2.2.2 vs q)=_;rw[z95 T E L.2.2.1 L.2.2.2.1 inner p i1 i2,zbc];refine zca fun x q=>?_
   simp only[jd]
   cases hp:jm L.2.2.1 L.2.2.2.1 inner x (E - q) with
   | error c=>rfl
   | ok i=>
    simp only;obtain⟨k1,k2,k3⟩:=zlk i1 i2 hp;by_cases h6:i.tag=6
    · rw[if_pos h6,yaa _ _ _ _ _ _ h6,ja];by_cases ho:za4 vs i.v=true
      · rw[if_pos ho,if_pos ho];rfl
      · rw[if_neg ho,if_neg ho];by_cases hl1:left=1
        · rw[if_pos hl1];subst hl1;rfl
        · rw[if_neg hl1];obtain⟨n,rfl⟩:∃n,left=n+2:=⟨left - 2,by omega⟩;show thn (kg T E L.2.2.1 L.2.2.2.1 (n+1) (vs++[i.v]) q) (fun vs q=>zc2 T E L.2.2.2.2 vs q)=thn (za3 T E L.2.2.1 L.2.2.2.1 q) (fun v r=>if za4 (vs++[i.v]) v=true then .error (3,q) else thn (kg T E L.2.2.1 L.2.2.2.1 (n+1 - 1) (vs++[i.v]++[v]) r) fun vs q=>zc2 T E L.2.2.2.2 vs q);rw[kg,zbc];refine zca fun v r=>?_
          split <;> rfl
    · rw[if_neg h6];show _=thn (zhl T E L.2.2.1 L.2.2.2.1 i q) (fun v r=>if za4 vs v=true then .error (3,if i.tag=0 then q else if inner.tag=0 then p else frm) else thn (kg T E L.2.2.1 L.2.2.2.1 (left - 1) (vs++[v]) r) fun vs q=>zc2 T E L.2.2.2.2 vs q);rw[show (if i.tag=0 then q else if inner.tag=0 then p else frm)=(if inner.tag=0 then p else frm) from if_neg (by omega)]
 · obtain⟨rfl,rfl⟩:=hno (by omega);show thn (jf T E L.2.2.2.2 p) (fun m q=>thn (vv T vs.length m [] [] q) fun s q=>zbq E (qj vs s.1 s.2) q)=_;unfold jf;rw[zbc];refine zca fun x q=>?_
   simp only[jd];by_cases hc:ql x L.2.2.2.2 (E - q)=0
   · rw[if_pos hc,if_neg (fun h=>h hc),ja];by_cases hx:x=0
     · rw[if_pos hx,zx6];subst hx;rfl
     · rw[if_neg hx];rfl
   · rw[if_neg hc,if_pos hc,zea]
 · have hl:=h3 (.inr rfl);rcases(by omega:turn=0∨turn=1∨turn=2) with rfl | rfl | rfl
   · obtain⟨n,rfl⟩:∃n,left=n+1:=⟨left - 1,by omega⟩;show thn (vv T vs.length (n+1) l ix p) (fun r q=>zbq E (qj vs r.1 r.2) q)=_;rw[vv,ivP,zbc,zbc];refine zca fun x q=>?_
     simp only[jd]
     cases loP (qr l) 0 x with
     | none=>rfl
     | some lo=>
      show thn (hiP T lo q) _=thn (hiP T lo q) (fun i r=>zdw T vs.length (zc1 l lo) ix r fun x r=>thn (vv T vs.length (n+1 - 1) (l++[i.1]) (ix++[x]) r) fun r q=>zbq E (qj vs r.1 r.2) q);unfold hiP;rw[zbc,zbc];refine zca fun y r=>?_
      by_cases hb:lo+y<18446744073709551616
      · rw[if_pos hb,ja,ja,z99];rfl
      · rw[if_neg hb];rfl
   · show thn (hiP T lo p) (fun i q=>zdw T vs.length tch ix q fun x r=>thn (vv T vs.length (left - 1) (l++[i.1]) (ix++[x]) r) fun r q=>zbq E (qj vs r.1 r.2) q)=_;unfold hiP;rw[zbc];refine zca fun x q=>?_
     simp only[jd];by_cases hb:lo+x<18446744073709551616
     · rw[if_pos hb,if_pos hb];rfl
     · rw[if_neg hb,if_neg hb];rfl
   · show thn (nmP T p) (fun x r=>if vs.length≤x then .error (8,p) else if tch=true∧ix.getLast?=some x then .error (10,p) else thn (vv T vs.length (left - 1) (l++[(lo,hi)]) (ix++[x]) r) fun r q=>zbq E (qj vs r.1 r.2) q)=_;refine zca fun x q=>?_
     simp only[jd];by_cases h8:vs.length≤x
     · rw[if_pos h8,if_pos h8]
     · rw[if_neg h8,if_neg h8];by_cases h10:tch=true∧ix.getLast?=some x
       · rw[if_pos h10,if_pos h10]
       · rw[if_neg h10,if_neg h10];by_cases hl1:left=1
         · rw[if_pos hl1,zx6];subst hl1;rfl
         · rw[if_neg hl1];rfl
theorem zgs {E:Nat} {L:zc} {s s':WS} {x p q:Nat} (hI:WInv s) (h4:s.tag<4) (h:jd E L s x p q=.ok s'):WInv s':=by
 obtain⟨h1,h2,h3,hin,hfr,hno⟩:=hI
 have fin:∀t:WS,t.turn≤2→∀t',zbn E t q=.ok t'→WInv t':=fun t ht t' h=>by
  unfold zbn at h;split at h
  · cases h
  · split at h
    · cases h
    · cases h;exact⟨by simp,ht,fun h=>by simp at h,fun h=>by simp at h,fun h=>by simp at h,fun h=>by simp at h⟩
 obtain⟨tag,vs,l,ix,left,frm,inner,turn,lo,hi,tch⟩:=s;simp only at h1 h2 h3 hin h4 hfr hno;rcases(by omega:tag=0∨tag=1∨tag=2∨tag=3) with rfl | rfl | rfl | rfl <;> simp only[jd] at h
 · obtain⟨n1,n2⟩:=hno (by omega);split at h
   · cases h
   · split at h
     · cases h;exact⟨by simp,h2,fun h=>by simp at h,fun h=>by simp at h,fun h=>by simp at h,fun _=>⟨n1,n2⟩⟩
     · cases h;exact⟨by simp,h2,fun _=>by simp only;omega,fun _=>⟨by simp[ps0],fun h=>by simp[ps0] at h⟩,fun h=>by simp at h,fun _=>⟨n1,n2⟩⟩
 · obtain⟨n1,n2⟩:=hno (by omega);obtain⟨i1,i2⟩:=hin rfl;have hl:=h3 (.inl rfl)
   cases hp:jm L.2.2.1 L.2.2.2.1 inner x (E - q) with
   | error c=>rw[hp] at h;cases h
   | ok i=>
    rw[hp] at h;simp only at h;obtain⟨k1,k2,k3⟩:=zlk i1 i2 hp;split at h
    · split at h
      · cases h
      · split at h
        · cases h;exact⟨by simp,h2,fun h=>by simp at h,fun h=>by simp at h,fun h=>by simp at h,fun _=>⟨n1,n2⟩⟩
        · cases h;exact⟨by simp,h2,fun _=>by simp only;omega,fun _=>⟨by simp[ps0],fun h=>by simp[ps0] at h⟩,fun h=>by simp at h,fun _=>⟨n1,n2⟩⟩
    · cases h;exact⟨by simp,h2,fun _=>hl,fun _=>⟨by simp only;omega,fun _=>k2 k3 (by omega)⟩,fun h=>by simp at h,fun _=>⟨n1,n2⟩⟩
 · split at h
   · cases h
   · split at h
     · exact fin _ h2 _ h
     · cases h;exact⟨by simp,by simp,fun _=>by simp only;omega,fun h=>by simp at h,fun h=>by simp at h,fun h=>by simp at h⟩
 · have hl:=h3 (.inr rfl);rcases(by omega:turn=0∨turn=1∨turn=2) with rfl | rfl | rfl <;> simp only at h
   · cases hq:loP (qr l) 0 x with
     | none=>rw[hq] at h;cases h
     | some lo=>rw[hq] at h;cases h;exact⟨by simp,by simp,fun _=>hl,fun h=>by simp at h,fun h=>by simp at h,fun h=>by simp at h⟩
   · split at h
     · cases h;exact⟨by simp,by simp,fun _=>hl,fun h=>by simp at h,fun h=>by simp at h,fun h=>by simp at h⟩
     · cases h
   · split at h
     · cases h
     · split at h
       · cases h
       · split at h
         · exact fin _ (by simp) _ h
         · cases h;exact⟨by simp,by simp,fun _=>by simp only;omega,fun h=>by simp at h,fun h=>by simp at h,fun h=>by simp at h⟩
theorem yab:WInv ws0:=⟨by simp[ws0],by simp[ws0],fun h=>by simp[ws0] at h,fun h=>by simp[ws0] at h,fun _=>rfl,fun _=>⟨rfl,rfl⟩⟩
def jx (l:List Nat):ye:=fun p=>match yf (l.drop p) 0 0 with | (1,x,j)=>.ok (x,p+j) | (2,_,_)=>.error 6 | _=>.error 5
theorem yac {j c:Nat} (h:yr j c=0):128≤c∧¬(0<j∧c=0)∧j≠9:=by
 unfold yr at h;split at h
 · cases h
 · rename_i h1;split at h
   · cases h
   · exact⟨by omega,fun h2=>h1 (.inr h2),fun h2=>h1 (.inl ⟨h2,by omega⟩)⟩
theorem yad {j c:Nat} (h:yr j c=1):c<128∧(j=9→c≤1)∧(0<j→c≠0):=by
 unfold yr at h;split at h
 · cases h
 · rename_i h1;split at h
   · exact⟨by assumption,fun h2=>by
      rcases Nat.lt_or_ge 1 c with h3 | h3
      · exact absurd (.inl ⟨h2,h3⟩) h1
      · exact h3,fun h2 h3=>h1 (.inr ⟨h2,h3⟩)⟩
   · cases h
theorem zln {x y k:Nat} (h:x<2 ^ k):x ||| (y*2 ^ k)=x+y*2 ^ k:=by
 have:=Nat.two_pow_add_eq_or_of_lt h y;rw[Nat.or_comm,Nat.mul_comm y,←this,Nat.add_comm]
theorem zx7 (j:Nat):2 ^ (7*(j+1))=128*2 ^ (7*j):=by rw[show 7*(j+1)=7*j+7 by omega,Nat.pow_add,Nat.mul_comm]
theorem zx8:∀(k j m x:Nat) (t:List Nat),j+k=9→m<2 ^ (7*k+1)→(0<j→0<m)→x<2 ^ (7*j)→x+m*2 ^ (7*j)<18446744073709551616→
 yf (vbF k m++t) j x=(1,x+m*2 ^ (7*j),j+(vbF k m).length)
 | 0,j,m,x,t,hj,hm,h0,hx,h64=>by
   have hm2:m<2:=by simpa using hm
   have e:vbF 0 m=[m]:=by simp[vbF];omega
   rw[e]
   have hs:yr j m=1:=by
    unfold yr;rw[if_neg (by omega),if_pos (by omega)]
   show yf (m :: t) j x=_;rw[yf,hs,if_neg (by omega),if_pos rfl]
   have:y8 x j m=x+m*2 ^ (7*j):=by
    unfold y8;rw[Nat.mod_eq_of_lt (show m<128 by omega),Nat.mod_eq_of_lt (by omega),zln hx]
   rw[this];rfl
 | k+1,j,m,x,t,hj,hm,h0,hx,h64=>by
   rw[zej];by_cases h:m<128
   · rw[if_pos h]
     have hs:yr j m=1:=by
      unfold yr;rw[if_neg (by omega),if_pos h]
     show yf (m :: t) j x=_;rw[yf,hs,if_neg (by omega),if_pos rfl]
     have:y8 x j m=x+m*2 ^ (7*j):=by
      unfold y8;rw[Nat.mod_eq_of_lt h,Nat.mod_eq_of_lt (by omega),zln hx]
     rw[this];rfl
   · rw[if_neg h]
     have hs:yr j (m % 128+128)=0:=by
      unfold yr;rw[if_neg (by omega),if_neg (by omega)]
     show yf ((m % 128+128) :: (vbF k (m / 128)++t)) j x=_;rw[yf,hs,if_neg (by omega),if_neg (by omega)];have hp:=zx7 j;have hmd:m % 128*2 ^ (7*j)≤m*2 ^ (7*j):=Nat.mul_le_mul_right _ (Nat.mod_le _ _)
     have ho:y8 x j (m % 128+128)=x+m % 128*2 ^ (7*j):=by
      unfold y8;rw[show (m % 128+128) % 128=m % 128 by omega,Nat.mod_eq_of_lt (by omega),zln hx]
     have hsum:x+m % 128*2 ^ (7*j)+m / 128*2 ^ (7*(j+1))=x+m*2 ^ (7*j):=by
      rw[hp]
      have e:m*2 ^ (7*j)=m % 128*2 ^ (7*j)+m / 128*(128*2 ^ (7*j)):=by
       rw[←Nat.mul_assoc,←Nat.add_mul];congr 1;omega
      omega
     have hx2:x+m % 128*2 ^ (7*j)<2 ^ (7*(j+1)):=by
      rw[hp];have:m % 128*2 ^ (7*j)≤127*2 ^ (7*j):=Nat.mul_le_mul_right _ (by omega);omega
     rw[ho,zx8 k (j+1) (m / 128) _ t (by omega) (by
      rw[show 7*(k+1)+1=(7*k+1)+7 from by omega,Nat.pow_add] at hm;exact Nat.div_lt_of_lt_mul (by omega)) (fun _=>by omega) hx2 (by rw[hsum];exact h64),hsum,List.length_cons]
     congr 2;omega
theorem zr9 {x:Nat} (t:List Nat) (h:x<18446744073709551616):yf (yp x++t) 0 0=(1,x,(yp x).length):=by
 have:=zx8 9 0 x 0 t rfl (by simpa using h) (fun h=>by omega) (by simp) (by simpa using h);simpa [yp] using this
theorem zx9:∀(l:List Nat) (j x X J:Nat),(∀c∈l,c<256)→j≤9→x<2 ^ (7*j)→yf l j x=(1,X,J)→
 ∃m,X=x+m*2 ^ (7*j)∧m<2 ^ (7*(9 - j)+1)∧(0<j→0<m)∧j<J∧J≤j+l.length∧vbF (9 - j) m=l.take (J - j)
 | [],j,x,X,J,_,_,_,h=>by simp[yf] at h
 | c :: l,j,x,X,J,hl,hj,hx,h=>by
   have hc:=hl c List.mem_cons_self;rw[yf] at h;by_cases h2:yr j c=2
   · rw[if_pos h2] at h;simp at h
   · rw[if_neg h2] at h;by_cases h1:yr j c=1
     · rw[if_pos h1] at h;obtain⟨a1,a2,a3⟩:=yad h1;simp only[Prod.mk.injEq,true_and] at h;obtain⟨rfl,rfl⟩:=h
       have hb:c*2 ^ (7*j)<18446744073709551616:=by
        by_cases h9:j=9
        · subst h9;have:=a2 rfl;simp only[Nat.reduceMul,Nat.reducePow];omega
        · have:2 ^ (7*j)≤2 ^ 56:=Nat.pow_le_pow_right (by omega) (by omega);have:c*2 ^ (7*j)≤127*2 ^ 56:=Nat.mul_le_mul (by omega) this;simp only[Nat.reducePow] at this;omega
       refine⟨c,?_,?_,fun h=>by have:=a3 h;omega,by omega,by simp only[List.length_cons];omega,?_⟩
       · unfold y8;rw[Nat.mod_eq_of_lt a1,Nat.mod_eq_of_lt hb,zln hx]
       · by_cases h9:j=9
         · subst h9;have:=a2 rfl;simp only[Nat.sub_self,Nat.mul_zero,Nat.zero_add,Nat.pow_one];omega
         · have:2 ^ 8≤2 ^ (7*(9 - j)+1):=Nat.pow_le_pow_right (by omega) (by omega);simp only[Nat.reducePow] at this;omega
       · rw[show j+1 - j=1 by omega]
         obtain h9 | ⟨k,h9⟩:9 - j=0∨∃k,9 - j=k+1:=by
          rcases Nat.eq_zero_or_pos (9 - j) with e | e
          · exact .inl e
          · exact .inr ⟨9 - j - 1,by omega⟩
         · rw[h9];simp[vbF];omega
         · rw[h9,zej,if_pos a1];rfl
     · rw[if_neg h1] at h
       have h0:yr j c=0:=by
        unfold yr at h1 h2 ⊢;by_cases e1:(j=9∧1<c)∨(0<j∧c=0)
        · rw[if_pos e1] at h2;exact absurd rfl h2
        · rw[if_neg e1] at h1 ⊢;by_cases e2:c<128
          · rw[if_pos e2] at h1;exact absurd rfl h1
          · rw[if_neg e2]
       obtain⟨b1,b2,b3⟩:=yac h0;have hp:=zx7 j
       have hb:c % 128*2 ^ (7*j)<18446744073709551616:=by
        have:2 ^ (7*j)≤2 ^ 56:=Nat.pow_le_pow_right (by omega) (by omega);have:c % 128*2 ^ (7*j)≤127*2 ^ 56:=Nat.mul_le_mul (by omega) this;simp only[Nat.reducePow] at this;omega
       have ho:y8 x j c=x+c % 128*2 ^ (7*j):=by
        unfold y8;rw[Nat.mod_eq_of_lt hb,zln hx]
       rw[ho] at h
       have hx2:x+c % 128*2 ^ (7*j)<2 ^ (7*(j+1)):=by
        rw[hp];have:c % 128*2 ^ (7*j)≤127*2 ^ (7*j):=Nat.mul_le_mul_right _ (by omega);omega
       obtain⟨m,e1,e2,e3,e4,e5,e6⟩:=zx9 l (j+1) _ X J (fun c hc=>hl c (List.mem_cons_of_mem _ hc)) (by omega) hx2 h;have hm:=e3 (by omega);refine⟨c % 128+128*m,?_,?_,fun _=>by omega,by omega,by simp only[List.length_cons];omega,?_⟩
       · rw[e1,hp,Nat.add_mul,←Nat.mul_assoc,Nat.mul_comm m 128];omega
       · rw[show 7*(9 - j)+1=(7*(9 - (j+1))+1)+7 by omega,Nat.pow_add];generalize 2 ^ (7*(9 - (j+1))+1)=P at*;omega
       · rw[show 9 - j=(9 - (j+1))+1 by omega,zej,if_neg (by omega),show (c % 128+128*m) % 128+128=c by omega,show (c % 128+128*m) / 128=m by omega,e6,show J - j=(J - (j+1))+1 by omega,List.take_succ_cons]
theorem zya {l:List Nat} {x j:Nat} (hl:∀c∈l,c<256) (h:yf l 0 0=(1,x,j)):x<18446744073709551616∧0<j∧j≤l.length∧yp x=l.take j:=by
 obtain⟨m,e1,e2,-,e4,e5,e6⟩:=zx9 l 0 0 x j hl (by omega) (by simp) h;simp only[Nat.mul_zero,Nat.pow_zero,Nat.mul_one,Nat.zero_add,Nat.sub_zero] at e1 e2 e5 e6;subst e1;exact⟨by simpa using e2,e4,e5,e6⟩
theorem zgt {l:List Nat} (hl:∀c∈l,c<256) {p x q:Nat} (h:jx l p=.ok (x,q)):p<q∧q≤l.length∧x<18446744073709551616∧l.drop p=yp x++l.drop q∧q=p+(yp x).length:=by
 unfold jx at h;split at h
 · rename_i y j hs;cases h;obtain⟨h1,h2,h3,h4⟩:=zya (fun c hc=>hl c (List.mem_of_mem_drop hc)) hs;rw[List.length_drop] at h3;refine⟨by omega,by omega,h1,?_,?_⟩
   · rw[h4,←List.drop_drop,List.take_append_drop]
   · rw[h4,List.length_take,List.length_drop];omega
 · cases h
 · cases h
theorem yae {l t:List Nat} {p x:Nat} (hx:x<18446744073709551616) (h:l.drop p=yp x++t):jx l p=.ok (x,p+(yp x).length):=by
 unfold jx;rw[h,zr9 t hx]
 rfl
def jq (T:ye):Nat→List Nat→Nat→Prop
 | p,[],q=>p=q
 | p,n :: ns,q=>∃r,T p=.ok (n,r)∧jq T r ns q
theorem zbr {T:ye}:∀{a b:List Nat} {p q:Nat},jq T p (a++b) q↔∃r,jq T p a r∧jq T r b q
 | [],b,p,q=>⟨fun h=>⟨p,rfl,h⟩,fun ⟨r,h,h'⟩=>by cases h;exact h'⟩
 | n :: a,b,p,q=>by
   constructor
   · rintro⟨r,h1,h2⟩;obtain⟨s,h3,h4⟩:=zbr.1 h2;exact⟨s,⟨r,h1,h3⟩,h4⟩
   · rintro⟨s,⟨r,h1,h3⟩,h4⟩;exact⟨r,h1,zbr.2 ⟨s,h3,h4⟩⟩
theorem ze8 {T:ye} (hT:∀p x q,T p=.ok (x,q)→p<q):∀{a:List Nat} {p q:Nat},jq T p a q→p+a.length≤q
 | [],p,q,h=>by cases h;simp
 | n :: a,p,q,⟨r,h1,h2⟩=>by
   have:=hT _ _ _ h1;have:=ze8 hT h2;simp only[List.length_cons];omega
theorem zsa {l:List Nat}:∀{ns t:List Nat} {p:Nat},(∀x∈ns,x<18446744073709551616)→l.drop p=zq ns++t→jq (jx l) p ns (p+(zq ns).length)
 | [],t,p,_,h=>by simp[jq,zq]
 | n :: ns,t,p,hn,h=>by
   have e:zq (n :: ns)=yp n++zq ns:=rfl;rw[e,List.append_assoc] at h;refine⟨p+(yp n).length,yae (hn n List.mem_cons_self) h,?_⟩;have:=zsa (l:=l) (ns:=ns) (t:=t) (p:=p+(yp n).length) (fun x hx=>hn x (List.mem_cons_of_mem _ hx)) (by rw[←List.drop_drop,h,List.drop_left]);rw[e,List.length_append,←Nat.add_assoc];exact this
theorem zsb {l:List Nat} (hl:∀c∈l,c<256):∀{ns:List Nat} {p q:Nat},jq (jx l) p ns q→l.drop p=zq ns++l.drop q
 | [],p,q,h=>by cases h;rfl
 | n :: ns,p,q,⟨r,h1,h2⟩=>by
   obtain⟨-,-,-,h3,-⟩:=zgt hl h1;have e:zq (n :: ns)=yp n++zq ns:=rfl;rw[h3,zsb hl h2,e,List.append_assoc]
