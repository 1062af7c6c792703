/- Part 25. -/
import Derived.Test.YtdnipikdddfhfaaGreatDoorWd24
set_option linter.unusedVariables false
set_option maxHeartbeats 16000000
namespace Go.Proofs.YtdnipikdddfhfaaGreatDoor
open Lib (hid)
section
open Go.RowKit
def zc0:Nat→Value:=fun _=>.slice none 0 0
def KV (w:World) (base:Nat) (K:Value) (vs:List Vec):Prop:=
 ∃Y,w.ownsRow base 97 2 K vs.length (k7 vs.length zc0 Y)∧∀i,i<vs.length→EnSl w 0 (Y i) (qq vs i)
theorem zrj (w:World) (base:Nat):KV w base (.slice none 0 0) []:=⟨zc0,World.ownsRow_nil _ _ _ _,fun i h=>by simp at h⟩
theorem KV.steady {w w':World} {base:Nat} {K:Value} {vs:List Vec} (h:KV w base K vs) (hs:Steady 0 zai w w'):KV w' base K vs:=by
 obtain⟨Y,h1,h2⟩:=h;exact⟨Y,zd6 h1 hs (.inr (.inr rfl)),fun i hi=>(h2 i hi).steady hs (.inl rfl) (.inr (.inl rfl))⟩
theorem KV.grown {w w':World} {base g:Nat} {K:Value} {vs:List Vec} (h:KV w base K vs) (hN:NotT w g) (hg:w.grownBy w' (some g)):KV w' base K vs:=h.steady (zeb hN (Nat.zero_le _) hg)
theorem KV.later {w w':World} {base:Nat} {K:Value} {vs:List Vec} (h:KV w base K vs) (hb:Below w.heap.size w w'):KV w' base K vs:=h.steady (.of_below hb)
theorem KV.below {w w':World} {base n:Nat} {K:Value} {vs:List Vec} (h:KV w base K vs) (hn:n=w.heap.size) (hb:Below n w w'):KV w' base K vs:=h.later (hn ▸ hb)
theorem z2f {vs:List Vec} {v:Vec} {i:Nat} (h:i<vs.length):qq (vs++[v]) i=qq vs i:=by simp[qq,List.getElem?_append_left h]
theorem z2g (vs:List Vec) (v:Vec):qq (vs++[v]) vs.length=v:=by simp[qq]
theorem z2h {n:Nat} (X Y:Nat→Value) (y:Value):k7 n X (upd Y n y)=k7 n X Y:=by
 unfold k7;congr 1;refine List.map_congr_left fun i hi=>?_
 rw[zax _ _ (Nat.ne_of_lt (List.mem_range.1 hi))]
theorem KV.snoc {w:World} {base:Nat} {K:Value} {vs:List Vec} (hK:KV w base K vs) {y:Value} {v:Vec} (hv:EnSl w 0 y v) (A:Option Addr) (c:Nat) (hr:Rd w 2 A 1 [.slice none 0 0,y]) (hb:vs.length+1≤1000000000000) (hbase:base≤w.heap.size):
 ∃K' w',(Builtin.append_ #[27,27] 27 #[K,.slice A 1 c]).run Tryz.prog w=.ok K' w'∧KV w' base K' (vs++[v])∧w.grownBy w' K.ownBlock∧(∀k,K.ownBlock=some k→base≤k):=by
 obtain⟨Y,ho,hY⟩:=hK
 have hy1:y.oneCell'=true:=by
  obtain⟨a,n,d,rfl,-⟩:=hv
  rfl
 obtain⟨K',w',h1,h2,h3⟩:=zbi base _ _ _ _ 2 48 Tryz.underlying27 Tryz.info_frg rfl (by omega) K vs.length _ ho A 1 c _ hr (by
  intro u hu;simp only[List.mem_cons,List.not_mem_nil,or_false] at hu;rcases hu with rfl | rfl
  · rfl
  · exact hy1) (by unfold maxLen;omega) (by omega) hbase
 have hs:Steady 0 zag w w':=(Steady.grown (base:=base) ho h3 (by rintro(h | h) <;> cases h)).lower (Nat.zero_le _);refine⟨K',w',h1,⟨upd Y vs.length y,?_,fun i hi=>?_⟩,h3,fun k hk=>(ho.lt k hk).1⟩
 · rw[List.length_append];show w'.ownsRow base 97 2 K' (vs.length+1) (k7 (vs.length+1) zc0 (upd Y vs.length y));rw[z0q,z2h,zbt];exact h2
 · by_cases e:i=vs.length
   · subst e;rw[zbt,z2g];exact hv.steady hs (.inl rfl) (.inr rfl)
   · have hi':i<vs.length:=by simp at hi;omega
     rw[zax _ _ e,z2f hi'];exact(hY i hi').steady hs (.inl rfl) (.inr rfl)
theorem KV.at {w:World} {base:Nat} {K:Value} {vs:List Vec} (hK:KV w base K vs) {i:Nat} (hi:i<vs.length):∃g cap,K=.slice (some ⟨g,0,none⟩) vs.length cap∧base≤g∧g<w.heap.size∧∃y,w.cell? ⟨g,i*2+1,none⟩=some y∧w.cell? ⟨g,i*2,none⟩=some (.slice none 0 0)∧EnSl w 0 y (qq vs i):=by
 obtain⟨Y,ho,hY⟩:=hK;obtain⟨g,cap,rfl,hg,hgl,-,-⟩:=zbq ho (by omega);obtain⟨e1,e2⟩:=zcy hi zc0 Y;have c1:=ho.cells (g:=g) rfl _ _ e1;have c2:=ho.cells (g:=g) rfl _ _ e2;rw[yk,Nat.zero_add] at c1 c2;exact⟨g,cap,rfl,hg,hgl,Y i,c2,c1,hY i hi⟩
def SegM (w:World) (base:Nat) (K:Value) (vs:List Vec) (l:List Iv) (ix:List Nat):Prop:=
 ∃w2 X Y,base≤w2.heap.size∧Steady 0 zag w2 w∧(∀i,i<vs.length→EnSl w2 0 (Y i) (qq vs i))∧w.ownsRow base 97 2 K vs.length (k7 vs.length X Y)∧
  (∀i,i<vs.length→w.ownsRow w2.heap.size 89 2 (X i) (itN l ix i).length (ivC (itN l ix i)))∧∀i,i<vs.length→∀j,j<vs.length→i≠j→∀b,(X i).ownBlock=some b→(X j).ownBlock≠some b
theorem KV.seg {w:World} {base:Nat} {K:Value} {vs:List Vec} (h:KV w base K vs) (hb:base≤w.heap.size):SegM w base K vs [] []:=by
 obtain⟨Y,h1,h2⟩:=h;exact⟨w,zc0,Y,hb,⟨Nat.le_refl _,fun _ _ _=>rfl⟩,h2,h1,fun i hi=>World.ownsRow_nil _ _ _ _,fun i hi j hj _ b hb=>by simp[zc0,Value.ownBlock] at hb⟩
theorem SegM.steady {w w':World} {base:Nat} {K:Value} {vs:List Vec} {l:List Iv} {ix:List Nat} (h:SegM w base K vs l ix) (hs:Steady 0 zai w w'):SegM w' base K vs l ix:=by
 obtain⟨w2,X,Y,h1,h2,h3,h4,h5,h6⟩:=h;exact⟨w2,X,Y,h1,h2.trans (hs.weak fun T hT=>hT.imp id .inl),h3,zd6 h4 hs (.inr (.inr rfl)),fun i hi=>zd6 (h5 i hi) hs (.inl rfl),h6⟩
theorem SegM.grown {w w':World} {base g:Nat} {K:Value} {vs:List Vec} {l:List Iv} {ix:List Nat} (h:SegM w base K vs l ix) (hN:NotT w g) (hg:w.grownBy w' (some g)):SegM w' base K vs l ix:=h.steady (zeb hN (Nat.zero_le _) hg)
theorem SegM.later {w w':World} {base:Nat} {K:Value} {vs:List Vec} {l:List Iv} {ix:List Nat} (h:SegM w base K vs l ix) (hb:Below w.heap.size w w'):SegM w' base K vs l ix:=h.steady (.of_below hb)
theorem SegM.at {w:World} {base:Nat} {K:Value} {vs:List Vec} {l:List Iv} {ix:List Nat} (h:SegM w base K vs l ix) {i:Nat} (hi:i<vs.length):∃g cap,K=.slice (some ⟨g,0,none⟩) vs.length cap∧base≤g∧g<w.heap.size∧(∀j,w.frozen? ⟨g,j,none⟩=false)∧∃x,w.cell? ⟨g,i*2,none⟩=some x:=by
 obtain⟨w2,X,Y,h1,h2,h3,h4,h5,h6⟩:=h;obtain⟨g,cap,rfl,hg,hgl,-,-⟩:=zbq h4 (by omega);have c1:=h4.cells (g:=g) rfl _ _ (zcy hi X Y).1;rw[yk,Nat.zero_add] at c1;exact⟨g,cap,rfl,hg,hgl,fun j=>h4.frozenAt j,X i,c1⟩
theorem SegM.put {w:World} {base g cap:Nat} {vs:List Vec} {l:List Iv} {ix:List Nat} (h:SegM w base (.slice (some ⟨g,0,none⟩) vs.length cap) vs l ix) (hli:ix.length=l.length) {i:Nat} (hi:i<vs.length) {S:Value} (hS:w.cell? ⟨g,i*2,none⟩=some S) (s:Iv)
 (W:World) (hW:Below w.heap.size w W) (A:Option Addr) (c:Nat) (hr:Rd W 2 A 1 (ivC [s])) (hb:l.length+1≤1000000000000):
 ∃S' w',(Builtin.append_ #[91,91] 91 #[S,.slice A 1 c]).run Tryz.prog W=.ok S' w'∧(∃gS m cS,S'=.slice (some ⟨gS,0,none⟩) m cS)∧W.grownBy w' S.ownBlock∧(∀k,S.ownBlock=some k→base≤k∧∃C fr,W.heap[k]?=some (.cells C 89 fr))∧w'.cell? ⟨g,i*2,none⟩=some S∧w'.frozen? ⟨g,i*2,none⟩=false∧
  ∀w2,w'.grownBy w2 none→SegM (w2.setCell ⟨g,i*2,none⟩ S') base (.slice (some ⟨g,0,none⟩) vs.length cap) vs (l++[s]) (ix++[i]):=by
 obtain⟨wz,X,Y,h1,h2,h3,h4,h5,h6⟩:=h
 have e0:X i=S:=by
  have c1:=h4.cells (g:=g) rfl _ _ (zcy hi X Y).1;rw[yk,Nat.zero_add,hS] at c1;injection c1 with c1;exact c1.symm
 subst e0;have k4:=qc h4 hW;have k5:=fun j hj=>qc (h5 j hj) hW
 have hz:wz.heap.size≤W.heap.size:=Nat.le_trans h2.size hW.size;have hit:(itN l ix i).length≤l.length:=zk0 _ _ _ _;obtain⟨S',w',hrun,ho,hg,hat⟩:=zh5 wz.heap.size (X i) _ _ (k5 i hi) A c s hr (by omega) hz
 have hty:∀k,(X i).ownBlock=some k→∃C fr,W.heap[k]?=some (.cells C 89 fr):=fun k hk=>by
  rcases(k5 i hi).2 with ⟨e,_⟩ | ⟨b,cap',cur,e,_,hh,_⟩
  · rw[e] at hk;cases hk
  · have e':b=k:=by rw[e] at hk;simpa [Value.ownBlock] using hk
    subst e';exact⟨_,_,hh⟩
 have hne:(X i).ownBlock≠some g:=fun e=>zb8 k4 (k5 i hi) (by decide) g rfl e
 have e4:w'.ownsRow base 97 2 (.slice (some ⟨g,0,none⟩) vs.length cap) vs.length (k7 vs.length X Y):=qs k4 fun k hk=>by
  have e:g=k:=by simpa [Value.ownBlock] using hk
  subst e;exact hg.block g (k4.lt g rfl).2 fun e=>hne e.symm
 have hcell:w'.cell? ⟨g,i*2,none⟩=some (X i):=by
  have c1:=e4.cells (g:=g) rfl _ _ (zcy hi X Y).1;rwa [yk,Nat.zero_add] at c1
 obtain⟨gS,cS,eS,-⟩:=zbq ho (Nat.succ_pos _);refine⟨S',w',hrun,⟨gS,_,cS,eS⟩,hg,fun k hk=>⟨Nat.le_trans h1 ((k5 i hi).lt k hk).1,hty k hk⟩,hcell,e4.frozenAt _,fun w2 hw2=>?_⟩;have f4:=qs (w':=w2) e4 fun k hk=>hw2.block k (e4.lt k hk).2 (by simp)
 have fS:=qs (w':=w2) ho fun k hk=>hw2.block k (ho.lt k hk).2 (by simp)
 obtain⟨p1,p2⟩:=f4.stored (i*2) S'
 have hrow:∃C fr,w2.heap[g]?=some (.cells C 97 fr):=by
  rcases f4.2 with ⟨h',_⟩ | ⟨g',cap',cur,h',_,hh,_⟩
  · cases h'
  · cases h';exact⟨_,_,hh⟩
 obtain⟨C,fr,hrow⟩:=hrow;have hset:∀k,k≠g→k<w2.heap.size→(w2.setCell ⟨g,i*2,none⟩ S').heap[k]?=w2.heap[k]?:=fun k hk hl=>p2.block k hl fun e=>hk (by injection e)
 have hst:Steady 0 zag w2 (w2.setCell ⟨g,i*2,none⟩ S'):=.setCell hrow (Nat.zero_le _) (by rintro(h | h) <;> cases h)
 have hsWw:Steady 0 zag wz w':=⟨Nat.le_trans hz hg.size,fun k hk hp=>by
  have hkW:k<W.heap.size:=Nat.lt_of_lt_of_le hk hz;have hkw:=Nat.lt_of_lt_of_le hk h2.size;rw[hg.block k hkW fun e=>by have:=((k5 i hi).lt k e.symm).1;omega,hW.block k hkw];exact h2.row k hk hp⟩
 refine⟨wz,upd X i S',Y,h1,(hsWw.trans (⟨hw2.size,fun k hk _=>hw2.block k hk (by simp)⟩:Steady 0 zag w' w2)).trans hst,h3,?_,fun j hj=>?_,fun a ha b hb hab x hx=>?_⟩
 · rw[←zk3 hi];exact p1
 · by_cases e:j=i
   · subst e;rw[zbt,zh8 hli,if_pos rfl,List.length_append]
     exact qs fS fun k hk=>hset k (fun e=>by
      subst e;exact zb8 f4 fS (by decide) k rfl hk) (fS.lt k hk).2
   · rw[zax _ _ e,zh8 hli,if_neg (fun h=>e h.symm),List.append_nil];refine qs (h5 j hj) fun k hk=>?_
     have hl5:=(h5 j hj).lt k hk;have hkW:k<W.heap.size:=Nat.lt_of_lt_of_le hl5.2 hW.size;rw[hset k (fun e'=>by subst e';exact zb8 h4 (h5 j hj) (by decide) k rfl hk) (Nat.lt_of_lt_of_le hkW (Nat.le_trans hg.size hw2.size)),hw2.block k (Nat.lt_of_lt_of_le hkW hg.size) (by simp),hg.block k hkW (fun e'=>h6 j hj i hi e k hk e'.symm),hW.block k hl5.2]
 · by_cases ea:a=i
   · subst ea;rw[zbt] at hx;rw[zax _ _ (fun e=>hab e.symm)];intro hy;rcases hat x hx with h' | h'
     · exact h6 a ha b hb hab x h' hy
     · have:=((h5 b hb).lt x hy).2;have:=hW.size;omega
   · rw[zax _ _ ea] at hx;by_cases eb:b=i
     · subst eb;rw[zbt];intro hy;rcases hat x hy with h' | h'
       · exact h6 a ha b hb hab x hx h'
       · have:=((h5 a ha).lt x hx).2;have:=hW.size;omega
     · rw[zax _ _ eb];exact h6 a ha b hb hab x hx
theorem SegM.frags {w:World} {base:Nat} {K:Value} {vs:List Vec} {l:List Iv} {ix:List Nat} (h:SegM w base K vs l ix) (hl:zk l):∃a c,K=.slice a vs.length c∧Frags w a vs.length c (qi vs l ix):=by
 obtain⟨wz,X,Y,h1,h2,h3,h4,h5,h6⟩:=h;have hlen:(qi vs l ix).length=vs.length:=by rw[zea];simp
 have hnth:∀i,i<vs.length→zb (qi vs l ix) i=(itN l ix i,qq vs i):=fun i hi=>by
  rw[ym (by rw[hlen];exact hi)];simp[zea]
 rcases Nat.eq_zero_or_pos vs.length with h0 | h0
 · obtain⟨a,c,rfl⟩:=jz h4;rcases h4.2 with ⟨h',-⟩ | ⟨g,cap,cur,h',hg,hh,hnc,hcm,_⟩
   · injection h' with e1 _ e3;subst e1 e3;refine⟨none,0,rfl,?_⟩;rw[h0] at hlen ⊢;rw[List.length_eq_zero_iff.1 hlen];exact zey w
   · injection h' with e1 _ e3;subst e1 e3;exact⟨_,_,rfl,hlen,hnc,by unfold maxLen at hcm;omega,(by intro e;cases e),fun hn=>by omega⟩
 · obtain⟨g,cap,rfl,hg,hgl,hnc,hcm⟩:=zbq h4 h0;refine⟨_,_,rfl,hlen,hnc,by unfold maxLen at hcm;omega,(by intro e;cases e),fun _=>⟨g,0,rfl,fun i hi=>?_⟩⟩;obtain⟨e1,e2⟩:=zcy hi X Y;have c1:=h4.cells (g:=g) rfl _ _ e1;have c2:=h4.cells (g:=g) rfl _ _ e2;rw[yk] at c1 c2;rw[hnth i hi];obtain⟨a,c,e,hI⟩:=zbd (h5 i hi) (fun t ht=>hl t (zqc (Nat.le_refl _) ht));obtain⟨a',m',c',e',hE⟩:=(h3 i hi).steady h2 (.inl rfl) (.inr rfl);rw[e] at c1;rw[e'] at c2;exact⟨⟨a,_,c,c1,hI⟩,⟨a',m',c',by rw[Nat.add_assoc];exact c2,hE.ents⟩⟩
theorem SegM.len {w:World} {base:Nat} {K:Value} {vs:List Vec} {l:List Iv} {ix:List Nat} (h:SegM w base K vs l ix):∃a c,K=.slice a vs.length c:=by
 obtain⟨wz,X,Y,h1,h2,h3,h4,h5,h6⟩:=h;exact jz h4
theorem KV.len {w:World} {base:Nat} {K:Value} {vs:List Vec} (h:KV w base K vs):∃a c,K=.slice a vs.length c:=by
 obtain⟨Y,h4,-⟩:=h;exact jz h4
theorem OwnV.enSl {w:World} {base:Nat} {V:Value} {v:Vec} (h:OwnV w base V v) (hl:LtV v):EnSl w 0 V v:=by
 obtain⟨a,c,rfl,hE⟩:=h.entsT (base':=0) hl;exact⟨a,_,c,rfl,hE⟩
end
section
open Go.RowKit
attribute [local go_sem] zad
def lmV (L:zg):Value:=.agg #[.int .i64 L.1,.int .i64 L.2.1,.int .i64 L.2.2.1,.int .i64 L.2.2.2.1,.int .i64 L.2.2.2.2]
def pkF (g:Nat):Nat→Value
 | 0=>.func (.func 189) #[.pointer (some ⟨g,0,none⟩)] #[]
 | 1=>.func (.func 231) #[.pointer (some ⟨g,0,none⟩)] #[]
 | 2=>.func (.func 260) #[.pointer (some ⟨g,0,none⟩)] #[]
 | 3=>.func (.func 273) #[.pointer (some ⟨g,0,none⟩)] #[]
 | 4=>.func (.func 299) #[.pointer (some ⟨g,0,none⟩)] #[]
 | 5=>.func (.func 303) #[.pointer (some ⟨g,0,none⟩)] #[]
 | _=>.nilFunc
def pkC (L:zg) (nx V:Value) (e h:Nat) (cu:Value):List Value:=
 [.int .i64 L.1,.int .i64 L.2.1,.int .i64 L.2.2.1,.int .i64 L.2.2.2.1,.int .i64 L.2.2.2.2,nx,.nilIface,V,.int .u64 (e:Int),.int .u64 (h:Int),cu]
def CuAt (w:World) (base:Nat) (cu:Value) (lo:Option Nat) (h:List Iv):Prop:=∃c x,cu=.pointer (some ⟨c,0,none⟩)∧base≤c∧(∀y,lo=some y→x=y)∧Row w c 193 (jj c 1 x h.getLast? lo.isSome)
theorem CuAt.grown {w w':World} {base g:Nat} {cu:Value} {lo:Option Nat} {h:List Iv} {T:TypeId} {C:List Value} (hc:CuAt w base cu lo h) (hR:Row w g T C) (hT:T≠193) (hg:w.grownBy w' (some g)):CuAt w' base cu lo h:=by
 obtain⟨c,x,h1,h2,h3,h4⟩:=hc;exact⟨c,x,h1,h2,h3,h4.grown hg fun e=>by injection e with e;exact hR.ne h4 hT e.symm⟩
theorem CuAt.later {w w':World} {base:Nat} {cu:Value} {lo:Option Nat} {h:List Iv} (hc:CuAt w base cu lo h) (hb:Below w.heap.size w w'):CuAt w' base cu lo h:=by
 obtain⟨c,x,h1,h2,h3,h4⟩:=hc;exact⟨c,x,h1,h2,h3,h4.later hb⟩
def PkB (w:World) (base:Nat) (s:PS) (V cu:Value):Prop:=
 match s.tag with
 | 0=>V=.slice none 0 0
 | 1=>OwnV w base V s.v
 | 2=>EntO w base V s.v s.rep 0 []
 | 3=>EntO w base V s.v s.rep s.mx []
 | 4=>EntO w base V s.v s.rep s.mx s.h∧CuAt w base cu none s.h
 | 5=>EntO w base V s.v s.rep s.mx s.h∧CuAt w base cu (some s.lo) s.h
 | _=>OwnV w base V s.v
theorem PkB.later {w w':World} {base:Nat} {s:PS} {V cu:Value} (h:PkB w base s V cu) (hb:Below w.heap.size w w'):PkB w' base s V cu:=by
 unfold PkB at h ⊢;split at h
 · exact h
 · exact h.below hb
 · exact h.later hb
 · exact h.later hb
 · exact⟨h.1.later hb,h.2.later hb⟩
 · exact⟨h.1.later hb,h.2.later hb⟩
 · exact h.below hb
theorem PkB.grown {w w':World} {base g:Nat} {s:PS} {V cu:Value} {C:List Value} (h:PkB w base s V cu) (hR:Row w g 282 C) (hg:w.grownBy w' (some g)):PkB w' base s V cu:=by
 have hN:NotT w g:=hR.notT (by rintro(h | h | h) <;> cases h);unfold PkB at h ⊢;split at h
 · exact h
 · exact h.grown hN hg
 · exact h.grown hN hg
 · exact h.grown hN hg
 · exact⟨h.1.grown hN hg,h.2.grown hR (by decide) hg⟩
 · exact⟨h.1.grown hN hg,h.2.grown hR (by decide) hg⟩
 · exact h.grown hN hg
def PkR (w:World) (base g:Nat) (L:zg) (nx:Value) (s:PS):Prop:=base≤g∧∃V cu,Row w g 282 (pkC L nx V s.ents s.hls cu)∧PkB w base s V cu
theorem PkR.later {w w':World} {base g:Nat} {L:zg} {nx:Value} {s:PS} (h:PkR w base g L nx s) (hb:Below w.heap.size w w'):PkR w' base g L nx s:=by
 obtain⟨h1,V,cu,h2,h3⟩:=h;exact⟨h1,V,cu,h2.later hb,h3.later hb⟩
def PkS (w:World) (base g:Nat) (L:zg) (r:Except Nat PS) (e:Ending) (w':World):Prop:=
 Below base w w'∧match r with
 | .error c=>e=.returned (.tuple #[.nilFunc,.iface 35 (.int .i64 (c:Int))])∧∃C,Row w' g 282 C∧C.length=11
 | .ok s'=>∃nx,e=.returned (.tuple #[pkF g s'.tag,.nilIface])∧PkR w' base g L nx s'
def ze6 (c:Nat):Value:=if c=0 then .nilIface else .iface 35 (.int .i64 (c:Int))
def I64 (l:Int):Prop:= -9223372036854775808≤l∧l≤9223372036854775807
structure LimsI (L:zg):Prop where
 a:I64 L.1
 b:I64 L.2.1
 c:I64 L.2.2.1
 d:I64 L.2.2.2.1
 e:I64 L.2.2.2.2
theorem zrk (x:Nat) (lim:Int) (rest:Nat):(max lim 0<(x:Int)∧zv x lim rest=7)∨(¬max lim 0<(x:Int)∧rest<x∧zv x lim rest=5)∨(¬max lim 0<(x:Int)∧¬rest<x∧zv x lim rest=0):=by
 unfold zv;by_cases h1:max lim 0<(x:Int)
 · left;refine⟨h1,if_pos ?_⟩;omega
 · by_cases h2:rest<x
   · right;left;refine⟨h1,h2,?_⟩;rw[if_neg (by omega),if_pos h2]
   · right;right;refine⟨h1,h2,?_⟩;rw[if_neg (by omega),if_neg h2]
theorem zrl (x:Nat) (lim:Int) (rest:Nat) (w:World) (hx:x<18446744073709551616) (hl:I64 lim) (hr:rest<9223372036854775808):
 Calls Tryz.prog 230 #[.int .u64 (x:Int),.int .i64 lim,.int .i64 (rest:Int)] w fun e w'=>e=.returned (ze6 (zv x lim rest))∧w=w':=by
 have hc:=zrk x lim rest;obtain⟨l1,l2⟩:=hl;generalize zv x lim rest=c at*;have Hx:=hid hx;clear hx;by_cases hneg:lim<0
 · have e0:max lim 0=0:=by omega
   rw[e0] at hc;clear e0;rcases hc with ⟨h1,rfl⟩ | ⟨h1,h2,rfl⟩ | ⟨h1,h2,rfl⟩
   · have h1':0<x:=by omega
     clear h1;go_enter Tryz.func230,Tryz.ntmps230;go_wp2_with fail;go_ret;exact⟨rfl,rfl⟩
   · have h1':x=0:=by omega
     omega
   · obtain rfl:x=0:=by omega
     go_enter Tryz.func230,Tryz.ntmps230;go_wp2_with fail;go_ret;exact⟨rfl,rfl⟩
 · obtain⟨m,rfl⟩:=Int.eq_ofNat_of_zero_le (show 0≤lim by omega);have e0:max (m:Int) 0=(m:Int):=by omega
   rw[e0] at hc;clear e0;rcases hc with ⟨h1,rfl⟩ | ⟨h1,h2,rfl⟩ | ⟨h1,h2,rfl⟩
   · have h1':m<x:=by omega
     clear h1;go_enter Tryz.func230,Tryz.ntmps230;go_wp2_with fail;go_ret;exact⟨rfl,rfl⟩
   · have h1':¬m<x:=by omega
     clear h1;go_enter Tryz.func230,Tryz.ntmps230;go_wp2_with fail;go_ret;exact⟨rfl,rfl⟩
   · have h1':¬m<x:=by omega
     clear h1;go_enter Tryz.func230,Tryz.ntmps230;go_wp2_with fail;go_ret;exact⟨rfl,rfl⟩
end
section
open Go.RowKit
def zci (B:Value) (q E c p:Int) (m:Bool):List Value:=[B,.int .i64 q,.int .i64 E,.int .i64 c,.int .i64 p,.bool m]
def CurM (w:World) (g:Nat) (B:Value) (E:Nat):Except (Nat×Nat) Nat→Prop
 | .ok q=>Row w g 106 (zci B q E 0 0 false)
 | .error e=>∃q:Nat,Row w g 106 (zci B q E (e.1:Nat) (if e.1=0 then 0 else (e.2:Int)) (decide (e.1=0)))
theorem CurM.lt {w:World} {g:Nat} {B:Value} {E:Nat} {s:Except (Nat×Nat) Nat} (h:CurM w g B E s):g<w.heap.size:=by
 cases s with
 | ok q=>exact Row.lt h
 | error e=>obtain⟨q,h⟩:=h;exact h.lt
theorem CurM.later {w w':World} {g:Nat} {B:Value} {E:Nat} {s:Except (Nat×Nat) Nat} (h:CurM w g B E s) (hb:Below w.heap.size w w'):CurM w' g B E s:=by
 cases s with
 | ok q=>exact Row.later h hb
 | error e=>obtain⟨q,h⟩:=h;exact⟨q,h.later hb⟩
theorem kp {w:World} {g:Nat} {B:Value} {E q:Nat} (h:CurM w g B E (.ok q)):Calls Tryz.prog 95 #[.pointer (some ⟨g,0,none⟩)] w fun e w'=>e=.returned (.bool false)∧w=w':=by
 have c3:=Row.cell h 3 rfl;have c5:=Row.cell h 5 rfl;clear h;go_enter Tryz.func95,Tryz.ntmps95;go_wp2_with fail;go_ret;exact⟨rfl,rfl⟩
theorem vw {w:World} {g:Nat} {B:Value} {E:Nat} {x:Nat×Nat} (h:CurM w g B E (.error x)):Calls Tryz.prog 95 #[.pointer (some ⟨g,0,none⟩)] w fun e w'=>e=.returned (.bool true)∧w=w':=by
 obtain⟨q,h⟩:=h;obtain⟨c,p⟩:=x;have c3:=h.cell 3 rfl;have c5:=h.cell 5 rfl;simp only at c3 c5;clear h;by_cases hc:c=0
 · subst hc;rw[decide_eq_true rfl] at c5;rw[show ((0:Nat):Int)=0 from rfl] at c3;go_enter Tryz.func95,Tryz.ntmps95;go_wp2_with fail;go_ret;exact⟨rfl,rfl⟩
 · have hd:((c:Int) != 0)=true:=by rw[bne_iff_ne];omega
   rw[decide_eq_false hc] at c5;clear hc;go_enter Tryz.func95,Tryz.ntmps95;go_wp2_with fail;go_ret;exact⟨rfl,rfl⟩
theorem za7 {w:World} {g:Nat} {B:Value} {E q c p:Nat} (h:CurM w g B E (.ok q)) (hc:c≠0):Calls Tryz.prog 98 #[.pointer (some ⟨g,0,none⟩),.int .i64 c,.int .i64 p] w fun e w'=>e=.returned (.tuple #[])∧w.grownBy w' (some g)∧CurM w' g B E (.error (c,p)):=by
 have HS:=hid (kp h);have f3:=Row.fz h 3;have f4:=Row.fz h 4
 have H:=hid (show CurM ((w.setCell ⟨g,3,none⟩ (.int .i64 c)).setCell ⟨g,4,none⟩ (.int .i64 p)) g B E (.error (c,p)) from⟨q,by
  have h1:=(Row.set h 3 (.int .i64 c)).set 4 (.int .i64 p);rw[if_neg hc,decide_eq_false hc];exact h1⟩)
 have c3:=Row.cell h 3 rfl;have c4:=Row.cell h 4 rfl;clear h hc;go_enter Tryz.func98,Tryz.ntmps98;go_wp2_with fail;refine HS.out.mono ?_;rintro e w1 ⟨rfl,rfl⟩;go_wp2_with fail;refine bodyPost_end (results_none rfl _ _ _) rfl ?_;exact⟨rfl,yr (kd w g 3 _) (kd _ g 4 _),H.out⟩
theorem zia {w:World} {g:Nat} {B:Value} {E:Nat} {x:Nat×Nat} {c p:Int} (h:CurM w g B E (.error x)):Calls Tryz.prog 98 #[.pointer (some ⟨g,0,none⟩),.int .i64 c,.int .i64 p] w fun e w'=>e=.returned (.tuple #[])∧w=w':=by
 have HS:=hid (vw h);clear h;go_enter Tryz.func98,Tryz.ntmps98;go_wp2_with fail;refine HS.out.mono ?_;rintro e w1 ⟨rfl,rfl⟩;go_wp2_with fail;refine bodyPost_end (results_none rfl _ _ _) rfl ?_;exact⟨rfl,rfl⟩
theorem zrm:∀(l:List Nat) (j x:Nat),(yg l j x).1≤2
 | [],j,x=>by simp[yg]
 | c :: l,j,x=>by
   rw[yg];split
   · simp
   · split
     · simp
     · exact zrm l _ _
theorem zrn:∀(l:List Nat) (j x:Nat),(yg l j x).1≠1→(yg l j x).2.1=0
 | [],j,x=>fun _=>rfl
 | c :: l,j,x=>by
   rw[yg];split
   · exact fun _=>rfl
   · split
     · exact fun h=>absurd rfl h
     · exact zrn l _ _
theorem z2i {l:List Nat} {E p:Nat} {y:Nat×Nat} (h:zf l E p=.ok y):qn (l.take E) p=.ok y:=by
 unfold zf at h;unfold qn;generalize yg ((l.take E).drop p) 0 0=s at*;obtain⟨a,b,c⟩:=s;rcases a with _ | _ | _ | a
 · cases h
 · exact h
 · cases h
 · cases h
theorem za8 {l:List Nat} {E p x q:Nat} (hl:∀c∈l,c<256) (h:zf l E p=.ok (x,q)):p<q∧q≤l.length∧q≤E∧x<18446744073709551616∧q=p+(je x).length:=by
 obtain⟨h1,h2,h3,-,h5⟩:=zcz (fun c hc=>hl c (List.mem_of_mem_take hc)) (z2i h);rw[List.length_take] at h2;exact⟨h1,by omega,by omega,h3,h5⟩
theorem z2j (l:List Nat) (E n q:Nat) (hn:l.length=n) {st x j:Nat} (hs:yg ((l.take E).drop q) 0 0=(st,x,j)):
 (stG E n st=1∧zf l E q=.ok (x,q+j))∨(stG E n st=2∧x=0∧zf l E q=.error 6)∨(stG E n st=3∧x=0∧zf l E q=.error 5)∨(stG E n st=0∧x=0∧zf l E q=.error 0):=by
 have h1:=zrm ((l.take E).drop q) 0 0;have h2:=zrn ((l.take E).drop q) 0 0;rw[hs] at h1 h2;simp only at h1 h2;unfold zf;rw[hs];rcases(by omega:st=0∨st=1∨st=2) with rfl | rfl | rfl
 · have hx:=h2 (by omega);by_cases hE:E≤n
   · exact .inr (.inr (.inl ⟨if_pos ⟨rfl,hE⟩,hx,by simp only;rw[if_pos (by omega)]⟩))
   · exact .inr (.inr (.inr ⟨if_neg (fun h=>hE h.2),hx,by simp only;rw[if_neg (by omega)]⟩))
 · exact .inl ⟨if_neg (fun h=>by have:=h.1;omega),rfl⟩
 · exact .inr (.inl ⟨if_neg (fun h=>by have:=h.1;omega),h2 (by omega),rfl⟩)
structure Rf (w:World) (a:Option Addr) (n cap E:Nat) (l:List Nat):Prop where
 b:Byts w a n cap l
 n:n≤2000000000000000000
 E:E≤4000000000000000000
theorem Rf.below {w w':World} {a:Option Addr} {n cap E:Nat} {l:List Nat} (h:Rf w a n cap E l) (hb:Below w.heap.size w w'):Rf w' a n cap E l:=⟨h.b.below hb,h.n,h.E⟩
def zro (w:World) (g:Nat) (B:Value) (E q:Nat) (T:Except Nat (Nat×Nat)) (e:Ending) (w':World):Prop:=
 w.grownBy w' (some g)∧∃x:Nat,e=.returned (.tuple #[.int .u64 x,.int .i64 q])∧(∀y,T=.ok y→x=y.1∧CurM w' g B E (.ok y.2))∧(∀c,T=.error c→x=0∧CurM w' g B E (.error (c,q)))
set_option maxRecDepth 20000 in
theorem ze7 {w:World} {g n cap E q:Nat} {a:Option Addr} {l:List Nat} (hB:Rf w a n cap E l) (h:CurM w g (.slice a n cap) E (.ok q)) (hq:q≤n) (hqE:q≤E):
 Calls Tryz.prog 100 #[.pointer (some ⟨g,0,none⟩)] w (zro w g (.slice a n cap) E q (zf l E q)):=by
 obtain⟨st,x,j,hs⟩:∃st x j,yg ((l.take E).drop q) 0 0=(st,x,j):=⟨_,_,_,rfl⟩;have HK:=hid (z2j l E n q hB.b.len hs);have hSc:=fun W (hb:Below w.heap.size w W)=>z1w a n cap q E l W (hB.b.below hb) hq hqE hB.n hB.E
 rw[hs] at hSc;have HSc:=hid (fun W hb=>(hSc W hb).mono fun e w' ⟨h1,h2⟩=>(⟨h1,by subst h2;exact Below.refl _ _⟩:e=_∧Below W.heap.size W w'));have HS:=hid (kp h);have HC:=hid (fun W (hb:Below w.heap.size w W)=>CurM.later h hb);have HR0:=hid (fun W (hb:Below w.heap.size w W)=>Row.cell (Row.later h hb) 0 rfl);have HR2:=hid (fun W (hb:Below w.heap.size w W)=>Row.cell (Row.later h hb) 2 rfl);have c1:=Row.cell h 1 rfl;generalize stG E n st=S at*;clear hs hSc h hB;go_enter Tryz.func100,Tryz.ntmps100;go_wp2_with fail;refine HS.out.mono ?_;rintro e w1 ⟨rfl,rfl⟩;go_wp2_with fail;clear c1;refine za1 (by kernel_rfl) (by kernel_rfl) ?_
 repeat (go_big_quiet_step ((intro hw;first
  | rfl
  | (go_at_call 76;exact zcn hw (HSc.out _ hw))
  | (have q0:=HR0.out _ hw
     have q2:=HR2.out _ hw;go_simp;first | rfl | exact⟨rfl,hw⟩ | (trace_state;fail)))))
 refine wpQuiet_nil ?_;intro w2 hb2;have hC:=HC.out _ hb2;have c1:=Row.cell hC 1 rfl;have c5:=Row.cell hC 5 rfl;have f1:=Row.fz hC 1;have f5:=Row.fz hC 5;have Hg:=hid (ji (jk w (some g)) hb2);clear hb2;rcases HK.out with ⟨rfl,hT⟩ | ⟨rfl,rfl,hT⟩ | ⟨rfl,rfl,hT⟩ | ⟨rfl,rfl,hT⟩
 · have HCf:=hid (show CurM (w2.setCell ⟨g,1,none⟩ (.int .i64 ((q+j:Nat):Int))) g (.slice a n cap) E (.ok (q+j)) from Row.set hC 1 _);have HT:=hid hT;clear hC hT;go_wp2_with fail;go_ret2;show zro _ _ _ _ _ _ _ _;refine⟨yr Hg.out (kd w2 g 1 _),x,rfl,fun y hy=>?_,fun c hc=>?_⟩
   · rw[HT.out] at hy;cases hy;exact⟨rfl,HCf.out⟩
   · rw[HT.out] at hc;cases hc
 · have HF:=hid (za7 (c:=6) (p:=q) hC (by decide));have HT:=hid hT;clear hC hT;go_wp2_with fail;refine HF.out.mono ?_;rintro e w3 ⟨rfl,hg3,hC3⟩;have HC3:=hid hC3;have Hg3:=hid (yr Hg.out hg3);clear hC3 hg3 c1 c5 f1 f5;go_wp2_with fail;go_ret2;refine⟨Hg3.out,0,rfl,fun y hy=>?_,fun c hc=>?_⟩
   · rw[HT.out] at hy;cases hy
   · rw[HT.out] at hc;cases hc;exact⟨rfl,HC3.out⟩
 · have HF:=hid (za7 (c:=5) (p:=q) hC (by decide));have HT:=hid hT;clear hC hT;go_wp2_with fail;refine HF.out.mono ?_;rintro e w3 ⟨rfl,hg3,hC3⟩;have HC3:=hid hC3;have Hg3:=hid (yr Hg.out hg3);clear hC3 hg3 c1 c5 f1 f5;go_wp2_with fail;go_ret2;refine⟨Hg3.out,0,rfl,fun y hy=>?_,fun c hc=>?_⟩
   · rw[HT.out] at hy;cases hy
   · rw[HT.out] at hc;cases hc;exact⟨rfl,HC3.out⟩
 · have HCf:=hid (show CurM (w2.setCell ⟨g,5,none⟩ (.bool true)) g (.slice a n cap) E (.error (0,q)) from⟨q,Row.set hC 5 _⟩);have HT:=hid hT;clear hC hT;go_wp2_with fail;go_ret2;refine⟨yr Hg.out (kd w2 g 5 _),0,rfl,fun y hy=>?_,fun c hc=>?_⟩
   · rw[HT.out] at hy;cases hy
   · rw[HT.out] at hc;cases hc;exact⟨rfl,HCf.out⟩
theorem zc1 {w:World} {g E:Nat} {B:Value} {x:Nat×Nat} (h:CurM w g B E (.error x)):Calls Tryz.prog 100 #[.pointer (some ⟨g,0,none⟩)] w fun e w'=>e=.returned (.tuple #[.int .u64 0,.int .i64 0])∧w=w':=by
 have HS:=hid (vw h);clear h;go_enter Tryz.func100,Tryz.ntmps100;go_wp2_with fail;refine HS.out.mono ?_;rintro e w1 ⟨rfl,rfl⟩;go_wp2_with fail;go_ret2;exact⟨rfl,rfl⟩
end
section
def zay (s:PS):Nat:=match s.tag with
 | 0=>0
 | 1=>(zl s.v).length
 | 2=>(zl s.v).length+1
 | 3=>(zl s.v).length+2
 | 4=>(zl s.v).length+3+2*s.h.length
 | 5=>(zl s.v).length+4+2*s.h.length
 | _=>(zl s.v).length
theorem zrp (v:Vec) (r m:Nat) (h:List Iv):(zl (v++[(r,m,h)])).length=(zl v).length+3+2*h.length:=by
 simp only[zl,List.length_cons,List.flatMap_append,List.length_append,List.flatMap_singleton,qz,zf3];omega
theorem zrq (s:PS) (k:Nat) (h:List Iv):zay (jn s k h)≤(zl s.v).length+3+2*h.length:=by
 unfold jn;split
 · exact Nat.le_refl _
 · split
   · simp only[zay];rw[zrp];exact Nat.le_refl _
   · simp only[zay];rw[zrp];exact Nat.le_refl _
theorem zrr {le lh:Int} {s s':PS} {x rest:Nat} (ht:s.tag<6) (h:qa le lh s x rest=.ok s'):zay s'≤zay s+1:=by
 obtain⟨tag,v,rep,mx,hh,ents,hls,lo⟩:=s;simp only at ht;rcases(by omega:tag=0∨tag=1∨tag=2∨tag=3∨tag=4∨tag=5) with rfl | rfl | rfl | rfl | rfl | rfl <;> simp only[qa] at h
 · split at h
   · cases h
   · split at h
     · cases h
     · cases h;exact Nat.le_refl _
 · cases hr:ko v x with
   | none=>rw[hr] at h;cases h
   | some r=>rw[hr] at h;cases h;exact Nat.le_refl _
 · cases h;exact Nat.le_refl _
 · split at h
   · cases h
   · cases h;exact zrq _ _ _
 · cases hr:loP (z7 hh) 1 x with
   | none=>rw[hr] at h;cases h
   | some r=>rw[hr] at h;cases h;simp only[zay];omega
 · split at h
   · cases h;refine Nat.le_trans (zrq _ _ _) ?_;simp only[zay,List.length_append,List.length_cons,List.length_nil];omega
   · cases h
theorem zrs {s:PS} (h:s.tag=6):zay s=(zl s.v).length:=by unfold zay;simp only[h]
structure RdJ (s:WS) (p:Nat):Prop where
 fit:WFit s p
 inv:WInv s
 tch:zec s
 tag:s.tag<4
 num:∀v∈s.vs,(zl v).length≤p
 cost:zay s.inner≤p
theorem RdJ.start:RdJ ws0 0:=⟨z1z,z02,z11,by decide,fun v h=>(by cases h),Nat.zero_le _⟩
theorem RdJ.mono {s:WS} {p q:Nat} (h:RdJ s p) (hp:p≤q):RdJ s q:=⟨h.fit.mono hp,h.inv,h.tch,h.tag,fun v hv=>Nat.le_trans (h.num v hv) hp,Nat.le_trans h.cost hp⟩
theorem zrt {E:Nat} {L:zg} {s s':WS} {x p q:Nat} (hI:RdJ s p) (hpq:p<q) (h:jd E L s x p q=.ok s'):(∀v∈s'.vs,(zl v).length≤q)∧zay s'.inner≤q:=by
 have hm:=hI.mono (Nat.le_of_lt hpq)
 have fin:∀t:WS,t.vs=s.vs→t.inner=s.inner→∀t',k8 E t q=.ok t'→(∀v∈t'.vs,(zl v).length≤q)∧zay t'.inner≤q:=fun t h1 h2 t' h=>by
  unfold k8 at h;split at h
  · cases h
  · split at h
    · cases h
    · injection h with h;subst h;exact⟨by show ∀v∈t.vs,_;rw[h1];exact hm.num,by show zay t.inner≤q;rw[h2];exact hm.cost⟩
 have z0:zay ps0≤q:=Nat.zero_le _;by_cases h1:s.tag=1
 · obtain⟨i1,-⟩:=hI.inv.inner h1;unfold jd at h;simp only[h1] at h;split at h
   · cases h
   · rename_i i hi;have hi':=zrr i1 hi;have hc:=hI.cost;by_cases h6:i.tag=6
     · rw[if_pos h6] at h;rw[zrs h6] at hi'
       have hvv:∀v∈s.vs++[i.v],(zl v).length≤q:=fun v hv=>by
        rcases List.mem_append.1 hv with h | h
        · exact hm.num v h
        · rw[List.mem_singleton] at h;subst h;omega
       split at h
       · cases h
       · split at h
         · injection h with h;subst h;exact⟨hvv,z0⟩
         · injection h with h;subst h;exact⟨hvv,z0⟩
     · rw[if_neg h6] at h;injection h with h;subst h;exact⟨hm.num,by show zay i≤q;omega⟩
 · unfold jd at h;split at h
   · split at h
     · cases h
     · split at h
       · injection h with h;subst h;exact⟨hm.num,hm.cost⟩
       · injection h with h;subst h;exact⟨hm.num,z0⟩
   · rename_i e;exact absurd e h1
   · split at h
     · cases h
     · split at h
       · exact fin _ rfl rfl _ h
       · injection h with h;subst h;exact⟨hm.num,hm.cost⟩
   · split at h
     · split at h
       · cases h
       · injection h with h;subst h;exact⟨hm.num,hm.cost⟩
     · split at h
       · injection h with h;subst h;exact⟨hm.num,hm.cost⟩
       · cases h
     · split at h
       · cases h
       · split at h
         · cases h
         · split at h
           · exact fin _ (by rfl) (by rfl) _ h
           · injection h with h;subst h;exact⟨hm.num,hm.cost⟩
   · injection h with h;subst h;exact⟨hm.num,hm.cost⟩
theorem RdJ.next {E:Nat} {L:zg} {s s':WS} {x p q:Nat} (h:RdJ s p) (hx:x<18446744073709551616) (hpq:p<q) (hs:jd E L s x p q=.ok s') (h4:s'.tag<4):RdJ s' q:=
 ⟨zre h.fit h.inv h.tag hx hpq hs,zk7 h.inv h.tag hs,z13 h.tch h.inv h.tag hs,h4,(zrt h hpq hs).1,(zrt h hpq hs).2⟩
theorem RdJ.inner {L:zg} {s:WS} {x p rest:Nat} (h:RdJ s p) (h1:s.tag=1) {i:PS} (hi:qa L.2.2.1 L.2.2.2.1 s.inner x rest=.ok i) (h6:i.tag=6):(zl i.v).length≤p+1:=by
 have:=zrr (h.inv.inner h1).1 hi;rw[zrs h6] at this;have:=h.cost;omega
end
section
open Go.RowKit
theorem z2k {k:Kno} (h:∀f∈k,RawF f) (d:Nat):(zbf k d).Pairwise kk:=
 (zfz (k:=k.take d) (out:=[]) (fun f hf=>h f (List.mem_of_mem_take hf)) (fun g hg=>by cases hg) List.Pairwise.nil).2.1
set_option maxRecDepth 20000 in
theorem z2l (a:Option Addr) (n cap:Nat) (k:Kno) (w:World) (hE:Frags w a n cap k) (hR:∀f∈k,RawF f) (hF:∀f∈k,VecFits f.2) (hC:∀f∈k,CanV f.2) (hS:zu k≤50000) (hn:n≤50000):
 Calls Tryz.prog 126 #[.slice a n cap] w fun x w'=>(∃y,x=.returned y∧OwnK w' w.heap.size 0 y (zb2 k))∧Below w.heap.size w w':=by
 have HE:=hid hE;have HR:=hid hR;have HF:=hid hF;have HC:=hid hC;have Hl:=hid hE.len;have Hall:=hid (zkl k);have HS:=hid (fun d=>And.intro (Nat.le_trans (zko hR d).1 hS) (Nat.le_trans (zko hR d).2 (by rw[hE.len];exact hn)));have Hk1:=hid (fun f (hf:f∈k)=>Nat.le_trans (zez hf) hS);have Hself:=hid (fun f (hf:f∈k)=>zjw (hR f hf).lt.vec (hC f hf));have HGf:=hid (zph (k:=k) (fun f hf=>by rw[zjw (hR f hf).lt.vec (hC f hf)];exact hF f hf));clear hE hR hF hC hS;go_enter Tryz.func126,Tryz.ntmps126;go_wp2;go_loopw [6,7,11] (fun _ _ i wr=>∃(d:Nat) (x:Value),d≤n∧i=.int .i64 d∧Below w.heap.size w wr∧Hid (wr.heap[w.heap.size]?=some (.cells #[x] 267 (0,0)))∧Hid (OwnK wr (w.heap.size+1) 0 x (zbf k d))) (fun _ _ i _=>n - (intOf i).toNat)
 case atStart=>exact⟨0,.slice none 0 0,by omega,rfl,(Below.refl _ _).alloc (Nat.le_refl _) _,yh rfl,zo9 _ _ _⟩
 case round=>
  obtain⟨d,xl,hd,rfl,hb,hrow,ho⟩:=hrel;have Hb:=hid hb;clear hb;have hws:w.heap.size<wr.heap.size:=(Array.getElem?_eq_some_iff.1 hrow.out).1;by_cases hdn:d<n
  · have hdk:d<k.length:=by rw[Hl.out];exact hdn
    obtain⟨bb,oo,rfl⟩:=HE.out.some (by omega);obtain⟨x,m,c,y,m',c',hq⟩:=HE.out.fix hdn;have Hq:=hid hq;have hraw:=HR.out _ (yx hdk);have hfit:=HF.out _ (yx hdk);have hcan:=HC.out _ (yx hdk);have Hfl:=hid (Hk1.out _ (yx hdk));have hst:=zx4 hdk;unfold stepG at hst;rw[Hself.out _ (yx hdk)] at hst;have Hst:=hid hst;have HOg:=hid (zx5 HR.out d);have HOs:=hid (HS.out d);have HOf:=hid (HGf.out d);have HOp:=hid (z2k HR.out d);have hal:Below wr.heap.size wr (wr.alloc (.cells #[.slice x m c,.slice y m' c'] 97)):=(Below.refl _ _).alloc (Nat.le_refl _) _;obtain⟨q1,q2,q3,q4⟩:=hq wr Hb.out;have hV:=hid (zzk y m' c' (zb k d).2 _ (q4.below hal) hcan hfit);have Hcl:=hid hraw.lt.vec;have Hil:=hid (show (zb k d).1.length=m from q2.len);have HI:=hid q2;have Hg:=hid (fun (h:¬((zb k d).2=[]∨(zb k d).1=[]))=>show GrpF ((zb k d).1,(zb k d).2) from⟨hraw.good,fun e=>h (.inr e),hraw.lt.items,hcan,fun e=>h (.inl e),hraw.lt.vec⟩);have Hft:=hid hfit;have h0:(0:Int)≤d:=by omega
    have h04:(d:Int)<(n:Int):=by omega
    have HX:=hid (zf2 wr (.slice x m c) (.slice y m' c') 97);obtain⟨x0,x1⟩:=HX.out _ (Below.refl _ _);have Hal:=hid hal;clear hq hraw hfit hcan hst hal q2 q4;generalize zbf k d=O at*;generalize zb k d=f at*;obtain⟨fi,fv⟩:=f;simp only at hV Hst Hcl Hil HI Hg Hft Hfl;go_wp2_with fail;refine hV.out.mono ?_;rintro e w1 ⟨⟨yv,rfl,hov⟩,hb1⟩;have Ha1:=hid (Hal.out.trans (hb1.mono Hal.out.size));have Hw1:=hid (Hb.out.trans (Ha1.out.mono Hb.out.size));have HoO:=hid (ho.out.below Ha1.out);have Hr1:=hid ((Ha1.out.block w.heap.size hws).trans hrow.out);have HI1:=hid (HI.out.below Ha1.out);obtain⟨va,vc,rfl,hV⟩:=hov.entsT (base':=0) Hcl.out;have HV:=hid hV;obtain⟨x0,x1⟩:=HX.out _ hb1;clear hov hV q1 q3 hb1;obtain⟨L,hL⟩:∃L,L=fv.length:=⟨_,rfl⟩;rw[←hL] at HV ⊢;have HL:=hid hL;clear hL;by_cases hemp:fv=[]∨fi=[]
    · rw[if_pos hemp] at Hst;by_cases hL0:L=0
      · have hz:¬0<L:=by omega
        clear hemp hL0;go_wp2;go_roundw
        case rel=>exact⟨d+1,xl,by omega,by go_num,Hw1.out,Hr1,by rw[Hst.out];exact HoO.out⟩
        case measure=>simp[intOf];omega
      · have hz:0<L:=by omega
        have hm0:m=0:=by
         rcases hemp with h | h
         · exact absurd (by rw[HL.out,h];rfl) hL0
         · rw[←Hil.out,h];rfl
        have hz2:¬0<m:=by omega
        clear hemp hL0 hm0;go_wp2;go_roundw
        case rel=>exact⟨d+1,xl,by omega,by go_num,Hw1.out,Hr1,by rw[Hst.out];exact HoO.out⟩
        case measure=>simp[intOf];omega
    · rw[if_neg hemp] at Hst
      have hz:0<L:=by
       rcases Nat.eq_zero_or_pos L with h | h
       · exact absurd (.inl (List.length_eq_zero_iff.1 (by have:=HL.out;omega))) hemp
       · omega
      have hz2:0<m:=by
       rcases Nat.eq_zero_or_pos m with h | h
       · exact absurd (.inr (List.length_eq_zero_iff.1 (by have:=Hil.out;omega))) hemp
       · omega
      have hgf:=Hg.out hemp;have hA:=hid (z2a w.heap.size (w.heap.size+1) xl O (fi,fv) x m c va L vc w1 Hr1.out (Nat.lt_succ_self _) (by have:=Ha1.out.size;omega) HoO.out HI1.out HV.out HOg.out hgf HOp.out HOf.out Hft.out (by have:=HOs.out;omega) (by have:=HOs.out;have:=Hfl.out;simp only;omega));clear hemp hgf;go_wp2_with fail;refine hA.out.mono ?_;rintro e w3 ⟨rfl,⟨x',hr3,ho3⟩,hk3⟩;have Hr3:=hid hr3;have Ho3:=hid ho3;have Hb3:=hid (show Below w.heap.size w w3 from Hw1.out.trans (hk3.toBelow (fun j hj=>⟨by omega,by omega⟩) (by have:=Ha1.out.size;omega)));clear hr3 ho3 hk3;go_wp2;go_roundw
      case rel=>exact⟨d+1,x',by omega,by go_num,Hb3.out,Hr3,by rw[Hst.out];exact Ho3.out⟩
      case measure=>simp[intOf];omega
  · obtain rfl:d=n:=by omega
    have Ho:=hid ho.out;rw[←Hl.out,Hall.out] at Ho;have hc:=yz hrow.out;go_wp2;go_ret;exact⟨⟨_,rfl,Ho.out.lower (Nat.le_succ _)⟩,Hb.out⟩
