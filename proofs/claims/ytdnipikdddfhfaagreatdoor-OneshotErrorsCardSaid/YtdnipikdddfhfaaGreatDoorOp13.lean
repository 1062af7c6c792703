/- Part 13. -/
import Derived.Test.YtdnipikdddfhfaaGreatDoorOp12
set_option linter.unusedVariables false
set_option maxHeartbeats 16000000
namespace Go.Proofs.YtdnipikdddfhfaaGreatDoor
open Lib (hid)
section
open Go.RowKit
def zbf:Nat→Value:=fun _=>.slice none 0 0
def KV (w:World) (base:Nat) (K:Value) (vs:List Vec):Prop:=
 ∃Y,w.ownsRow base 97 2 K vs.length (j9 vs.length zbf Y)∧∀i,i<vs.length→EnSl w 0 (Y i) (yt vs i)
theorem zlk (w:World) (base:Nat):KV w base (.slice none 0 0) []:=⟨zbf,World.ownsRow_nil _ _ _ _,fun i h=>by simp at h⟩
theorem KV.steady {w w':World} {base:Nat} {K:Value} {vs:List Vec} (h:KV w base K vs) (hs:Steady 0 qw w w'):KV w' base K vs:=by
 obtain⟨Y,h1,h2⟩:=h;exact⟨Y,zcg h1 hs (.inr (.inr rfl)),fun i hi=>(h2 i hi).steady hs (.inl rfl) (.inr (.inl rfl))⟩
theorem KV.grown {w w':World} {base g:Nat} {K:Value} {vs:List Vec} (h:KV w base K vs) (hN:NotT w g) (hg:w.grownBy w' (some g)):KV w' base K vs:=h.steady (zbw hN (Nat.zero_le _) hg)
theorem KV.later {w w':World} {base:Nat} {K:Value} {vs:List Vec} (h:KV w base K vs) (hb:Below w.heap.size w w'):KV w' base K vs:=h.steady (.of_below hb)
theorem KV.below {w w':World} {base n:Nat} {K:Value} {vs:List Vec} (h:KV w base K vs) (hn:n=w.heap.size) (hb:Below n w w'):KV w' base K vs:=h.later (hn ▸ hb)
theorem zs7 {vs:List Vec} {v:Vec} {i:Nat} (h:i<vs.length):yt (vs++[v]) i=yt vs i:=by simp[yt,List.getElem?_append_left h]
theorem zs8 (vs:List Vec) (v:Vec):yt (vs++[v]) vs.length=v:=by simp[yt]
theorem zs9 {n:Nat} (X Y:Nat→Value) (y:Value):j9 n X (upd Y n y)=j9 n X Y:=by
 unfold j9;congr 1;refine List.map_congr_left fun i hi=>?_
 rw[kj _ _ (Nat.ne_of_lt (List.mem_range.1 hi))]
theorem KV.snoc {w:World} {base:Nat} {K:Value} {vs:List Vec} (hK:KV w base K vs) {y:Value} {v:Vec} (hv:EnSl w 0 y v) (A:Option Addr) (c:Nat) (hr:Rd w 2 A 1 [.slice none 0 0,y]) (hb:vs.length+1≤1000000000000) (hbase:base≤w.heap.size):
 ∃K' w',(Builtin.append_ #[27,27] 27 #[K,.slice A 1 c]).run Tryz.prog w=.ok K' w'∧KV w' base K' (vs++[v])∧w.grownBy w' K.ownBlock∧(∀k,K.ownBlock=some k→base≤k):=by
 obtain⟨Y,ho,hY⟩:=hK
 have hy1:y.oneCell'=true:=by
  obtain⟨a,n,d,rfl,-⟩:=hv
  rfl
 obtain⟨K',w',h1,h2,h3⟩:=zbp base _ _ _ _ 2 48 Tryz.underlying27 Tryz.info_frg rfl (by omega) K vs.length _ ho A 1 c _ hr (by
  intro u hu;simp only[List.mem_cons,List.not_mem_nil,or_false] at hu;rcases hu with rfl | rfl
  · rfl
  · exact hy1) (by unfold maxLen;omega) (by omega) hbase
 have hs:Steady 0 za0 w w':=(Steady.grown (base:=base) ho h3 (by rintro(h | h) <;> cases h)).lower (Nat.zero_le _);refine⟨K',w',h1,⟨upd Y vs.length y,?_,fun i hi=>?_⟩,h3,fun k hk=>(ho.lt k hk).1⟩
 · rw[List.length_append];show w'.ownsRow base 97 2 K' (vs.length+1) (j9 (vs.length+1) zbf (upd Y vs.length y));rw[zr5,zs9,zai];exact h2
 · by_cases e:i=vs.length
   · subst e;rw[zai,zs8];exact hv.steady hs (.inl rfl) (.inr rfl)
   · have hi':i<vs.length:=by simp at hi;omega
     rw[kj _ _ e,zs7 hi'];exact(hY i hi').steady hs (.inl rfl) (.inr rfl)
theorem KV.at {w:World} {base:Nat} {K:Value} {vs:List Vec} (hK:KV w base K vs) {i:Nat} (hi:i<vs.length):∃g cap,K=.slice (some ⟨g,0,none⟩) vs.length cap∧base≤g∧g<w.heap.size∧∃y,w.cell? ⟨g,i*2+1,none⟩=some y∧w.cell? ⟨g,i*2,none⟩=some (.slice none 0 0)∧EnSl w 0 y (yt vs i):=by
 obtain⟨Y,ho,hY⟩:=hK;obtain⟨g,cap,rfl,hg,hgl,-,-⟩:=zbc ho (by omega);obtain⟨e1,e2⟩:=zbe hi zbf Y;have c1:=ho.cells (g:=g) rfl _ _ e1;have c2:=ho.cells (g:=g) rfl _ _ e2;rw[yv,Nat.zero_add] at c1 c2;exact⟨g,cap,rfl,hg,hgl,Y i,c2,c1,hY i hi⟩
def SegM (w:World) (base:Nat) (K:Value) (vs:List Vec) (l:List Iv) (ix:List Nat):Prop:=
 ∃w2 X Y,base≤w2.heap.size∧Steady 0 za0 w2 w∧(∀i,i<vs.length→EnSl w2 0 (Y i) (yt vs i))∧w.ownsRow base 97 2 K vs.length (j9 vs.length X Y)∧
  (∀i,i<vs.length→w.ownsRow w2.heap.size 89 2 (X i) (itN l ix i).length (ivC (itN l ix i)))∧∀i,i<vs.length→∀j,j<vs.length→i≠j→∀b,(X i).ownBlock=some b→(X j).ownBlock≠some b
theorem KV.seg {w:World} {base:Nat} {K:Value} {vs:List Vec} (h:KV w base K vs) (hb:base≤w.heap.size):SegM w base K vs [] []:=by
 obtain⟨Y,h1,h2⟩:=h;exact⟨w,zbf,Y,hb,⟨Nat.le_refl _,fun _ _ _=>rfl⟩,h2,h1,fun i hi=>World.ownsRow_nil _ _ _ _,fun i hi j hj _ b hb=>by simp[zbf,Value.ownBlock] at hb⟩
theorem SegM.steady {w w':World} {base:Nat} {K:Value} {vs:List Vec} {l:List Iv} {ix:List Nat} (h:SegM w base K vs l ix) (hs:Steady 0 qw w w'):SegM w' base K vs l ix:=by
 obtain⟨w2,X,Y,h1,h2,h3,h4,h5,h6⟩:=h;exact⟨w2,X,Y,h1,h2.trans (hs.weak fun T hT=>hT.imp id .inl),h3,zcg h4 hs (.inr (.inr rfl)),fun i hi=>zcg (h5 i hi) hs (.inl rfl),h6⟩
theorem SegM.grown {w w':World} {base g:Nat} {K:Value} {vs:List Vec} {l:List Iv} {ix:List Nat} (h:SegM w base K vs l ix) (hN:NotT w g) (hg:w.grownBy w' (some g)):SegM w' base K vs l ix:=h.steady (zbw hN (Nat.zero_le _) hg)
theorem SegM.later {w w':World} {base:Nat} {K:Value} {vs:List Vec} {l:List Iv} {ix:List Nat} (h:SegM w base K vs l ix) (hb:Below w.heap.size w w'):SegM w' base K vs l ix:=h.steady (.of_below hb)
theorem SegM.at {w:World} {base:Nat} {K:Value} {vs:List Vec} {l:List Iv} {ix:List Nat} (h:SegM w base K vs l ix) {i:Nat} (hi:i<vs.length):∃g cap,K=.slice (some ⟨g,0,none⟩) vs.length cap∧base≤g∧g<w.heap.size∧(∀j,w.frozen? ⟨g,j,none⟩=false)∧∃x,w.cell? ⟨g,i*2,none⟩=some x:=by
 obtain⟨w2,X,Y,h1,h2,h3,h4,h5,h6⟩:=h;obtain⟨g,cap,rfl,hg,hgl,-,-⟩:=zbc h4 (by omega);have c1:=h4.cells (g:=g) rfl _ _ (zbe hi X Y).1;rw[yv,Nat.zero_add] at c1;exact⟨g,cap,rfl,hg,hgl,fun j=>h4.frozenAt j,X i,c1⟩
theorem SegM.put {w:World} {base g cap:Nat} {vs:List Vec} {l:List Iv} {ix:List Nat} (h:SegM w base (.slice (some ⟨g,0,none⟩) vs.length cap) vs l ix) (hli:ix.length=l.length) {i:Nat} (hi:i<vs.length) {S:Value} (hS:w.cell? ⟨g,i*2,none⟩=some S) (s:Iv)
 (W:World) (hW:Below w.heap.size w W) (A:Option Addr) (c:Nat) (hr:Rd W 2 A 1 (ivC [s])) (hb:l.length+1≤1000000000000):
 ∃S' w',(Builtin.append_ #[91,91] 91 #[S,.slice A 1 c]).run Tryz.prog W=.ok S' w'∧(∃gS m cS,S'=.slice (some ⟨gS,0,none⟩) m cS)∧W.grownBy w' S.ownBlock∧(∀k,S.ownBlock=some k→base≤k∧∃C fr,W.heap[k]?=some (.cells C 89 fr))∧w'.cell? ⟨g,i*2,none⟩=some S∧w'.frozen? ⟨g,i*2,none⟩=false∧
  ∀w2,w'.grownBy w2 none→SegM (w2.setCell ⟨g,i*2,none⟩ S') base (.slice (some ⟨g,0,none⟩) vs.length cap) vs (l++[s]) (ix++[i]):=by
 obtain⟨wz,X,Y,h1,h2,h3,h4,h5,h6⟩:=h
 have e0:X i=S:=by
  have c1:=h4.cells (g:=g) rfl _ _ (zbe hi X Y).1;rw[yv,Nat.zero_add,hS] at c1;injection c1 with c1;exact c1.symm
 subst e0;have k4:=yf h4 hW;have k5:=fun j hj=>yf (h5 j hj) hW
 have hz:wz.heap.size≤W.heap.size:=Nat.le_trans h2.size hW.size;have hit:(itN l ix i).length≤l.length:=zhc _ _ _ _;obtain⟨S',w',hrun,ho,hg,hat⟩:=zfn wz.heap.size (X i) _ _ (k5 i hi) A c s hr (by omega) hz
 have hty:∀k,(X i).ownBlock=some k→∃C fr,W.heap[k]?=some (.cells C 89 fr):=fun k hk=>by
  rcases(k5 i hi).2 with ⟨e,_⟩ | ⟨b,cap',cur,e,_,hh,_⟩
  · rw[e] at hk;cases hk
  · have e':b=k:=by rw[e] at hk;simpa [Value.ownBlock] using hk
    subst e';exact⟨_,_,hh⟩
 have hne:(X i).ownBlock≠some g:=fun e=>zah k4 (k5 i hi) (by decide) g rfl e
 have e4:w'.ownsRow base 97 2 (.slice (some ⟨g,0,none⟩) vs.length cap) vs.length (j9 vs.length X Y):=yi k4 fun k hk=>by
  have e:g=k:=by simpa [Value.ownBlock] using hk
  subst e;exact hg.block g (k4.lt g rfl).2 fun e=>hne e.symm
 have hcell:w'.cell? ⟨g,i*2,none⟩=some (X i):=by
  have c1:=e4.cells (g:=g) rfl _ _ (zbe hi X Y).1;rwa [yv,Nat.zero_add] at c1
 obtain⟨gS,cS,eS,-⟩:=zbc ho (Nat.succ_pos _);refine⟨S',w',hrun,⟨gS,_,cS,eS⟩,hg,fun k hk=>⟨Nat.le_trans h1 ((k5 i hi).lt k hk).1,hty k hk⟩,hcell,e4.frozenAt _,fun w2 hw2=>?_⟩;have f4:=yi (w':=w2) e4 fun k hk=>hw2.block k (e4.lt k hk).2 (by simp)
 have fS:=yi (w':=w2) ho fun k hk=>hw2.block k (ho.lt k hk).2 (by simp)
 obtain⟨p1,p2⟩:=f4.stored (i*2) S'
 have hrow:∃C fr,w2.heap[g]?=some (.cells C 97 fr):=by
  rcases f4.2 with ⟨h',_⟩ | ⟨g',cap',cur,h',_,hh,_⟩
  · cases h'
  · cases h';exact⟨_,_,hh⟩
 obtain⟨C,fr,hrow⟩:=hrow;have hset:∀k,k≠g→k<w2.heap.size→(w2.setCell ⟨g,i*2,none⟩ S').heap[k]?=w2.heap[k]?:=fun k hk hl=>p2.block k hl fun e=>hk (by injection e)
 have hst:Steady 0 za0 w2 (w2.setCell ⟨g,i*2,none⟩ S'):=.setCell hrow (Nat.zero_le _) (by rintro(h | h) <;> cases h)
 have hsWw:Steady 0 za0 wz w':=⟨Nat.le_trans hz hg.size,fun k hk hp=>by
  have hkW:k<W.heap.size:=Nat.lt_of_lt_of_le hk hz;have hkw:=Nat.lt_of_lt_of_le hk h2.size;rw[hg.block k hkW fun e=>by have:=((k5 i hi).lt k e.symm).1;omega,hW.block k hkw];exact h2.row k hk hp⟩
 refine⟨wz,upd X i S',Y,h1,(hsWw.trans (⟨hw2.size,fun k hk _=>hw2.block k hk (by simp)⟩:Steady 0 za0 w' w2)).trans hst,h3,?_,fun j hj=>?_,fun a ha b hb hab x hx=>?_⟩
 · rw[←zhe hi];exact p1
 · by_cases e:j=i
   · subst e;rw[zai,zfq hli,if_pos rfl,List.length_append]
     exact yi fS fun k hk=>hset k (fun e=>by
      subst e;exact zah f4 fS (by decide) k rfl hk) (fS.lt k hk).2
   · rw[kj _ _ e,zfq hli,if_neg (fun h=>e h.symm),List.append_nil];refine yi (h5 j hj) fun k hk=>?_
     have hl5:=(h5 j hj).lt k hk;have hkW:k<W.heap.size:=Nat.lt_of_lt_of_le hl5.2 hW.size;rw[hset k (fun e'=>by subst e';exact zah h4 (h5 j hj) (by decide) k rfl hk) (Nat.lt_of_lt_of_le hkW (Nat.le_trans hg.size hw2.size)),hw2.block k (Nat.lt_of_lt_of_le hkW hg.size) (by simp),hg.block k hkW (fun e'=>h6 j hj i hi e k hk e'.symm),hW.block k hl5.2]
 · by_cases ea:a=i
   · subst ea;rw[zai] at hx;rw[kj _ _ (fun e=>hab e.symm)];intro hy;rcases hat x hx with h' | h'
     · exact h6 a ha b hb hab x h' hy
     · have:=((h5 b hb).lt x hy).2;have:=hW.size;omega
   · rw[kj _ _ ea] at hx;by_cases eb:b=i
     · subst eb;rw[zai];intro hy;rcases hat x hy with h' | h'
       · exact h6 a ha b hb hab x hx h'
       · have:=((h5 a ha).lt x hx).2;have:=hW.size;omega
     · rw[kj _ _ eb];exact h6 a ha b hb hab x hx
theorem SegM.frags {w:World} {base:Nat} {K:Value} {vs:List Vec} {l:List Iv} {ix:List Nat} (h:SegM w base K vs l ix) (hl:yj l):∃a c,K=.slice a vs.length c∧Frags w a vs.length c (zw vs l ix):=by
 obtain⟨wz,X,Y,h1,h2,h3,h4,h5,h6⟩:=h;have hlen:(zw vs l ix).length=vs.length:=by rw[zci];simp
 have hnth:∀i,i<vs.length→zd (zw vs l ix) i=(itN l ix i,yt vs i):=fun i hi=>by
  rw[yo (by rw[hlen];exact hi)];simp[zci]
 rcases Nat.eq_zero_or_pos vs.length with h0 | h0
 · obtain⟨a,c,rfl⟩:=qv h4;rcases h4.2 with ⟨h',-⟩ | ⟨g,cap,cur,h',hg,hh,hnc,hcm,_⟩
   · injection h' with e1 _ e3;subst e1 e3;refine⟨none,0,rfl,?_⟩;rw[h0] at hlen ⊢;rw[List.length_eq_zero_iff.1 hlen];exact zd2 w
   · injection h' with e1 _ e3;subst e1 e3;exact⟨_,_,rfl,hlen,hnc,by unfold maxLen at hcm;omega,(by intro e;cases e),fun hn=>by omega⟩
 · obtain⟨g,cap,rfl,hg,hgl,hnc,hcm⟩:=zbc h4 h0;refine⟨_,_,rfl,hlen,hnc,by unfold maxLen at hcm;omega,(by intro e;cases e),fun _=>⟨g,0,rfl,fun i hi=>?_⟩⟩;obtain⟨e1,e2⟩:=zbe hi X Y;have c1:=h4.cells (g:=g) rfl _ _ e1;have c2:=h4.cells (g:=g) rfl _ _ e2;rw[yv] at c1 c2;rw[hnth i hi];obtain⟨a,c,e,hI⟩:=zbn (h5 i hi) (fun t ht=>hl t (zkp (Nat.le_refl _) ht));obtain⟨a',m',c',e',hE⟩:=(h3 i hi).steady h2 (.inl rfl) (.inr rfl);rw[e] at c1;rw[e'] at c2;exact⟨⟨a,_,c,c1,hI⟩,⟨a',m',c',by rw[Nat.add_assoc];exact c2,hE.ents⟩⟩
theorem SegM.len {w:World} {base:Nat} {K:Value} {vs:List Vec} {l:List Iv} {ix:List Nat} (h:SegM w base K vs l ix):∃a c,K=.slice a vs.length c:=by
 obtain⟨wz,X,Y,h1,h2,h3,h4,h5,h6⟩:=h;exact qv h4
theorem KV.len {w:World} {base:Nat} {K:Value} {vs:List Vec} (h:KV w base K vs):∃a c,K=.slice a vs.length c:=by
 obtain⟨Y,h4,-⟩:=h;exact qv h4
theorem OwnV.enSl {w:World} {base:Nat} {V:Value} {v:Vec} (h:OwnV w base V v) (hl:LtV v):EnSl w 0 V v:=by
 obtain⟨a,c,rfl,hE⟩:=h.entsT (base':=0) hl;exact⟨a,_,c,rfl,hE⟩
theorem zta (w:World):Calls Tryz.prog 174 #[.slice none 0 0] w fun e w'=>e=.returned (.slice none 0 0)∧Below w.heap.size w w':=by
 go_enter Tryz.func174,Tryz.ntmps174;go_wp2_with fail;refine(zsk _).mono ?_;rintro e w1 ⟨⟨y,rfl,ho⟩,hb1⟩;obtain⟨ya,yc,rfl⟩:=qv ho;obtain⟨g,rfl,hg,hc1,hcell⟩:=zpr ho (by omega);have hcell0:w1.cell? ⟨g,0,none⟩=some (.int .u64 0):=hcell 0 (by omega);have Hb1:=hid hb1;have Hc:=hid hcell0;have Hg:=hid hg;clear ho hb1 hcell hcell0;go_wp2_with fail;go_loopw [3,12] (fun v i wr=>∃k:Nat,k≤1∧v=.slice none 0 0∧i=.int .i64 k∧Hid (Below w.heap.size w wr)∧Hid (wr.cell? ⟨g,0,none⟩=some (.int .u64 0))) (fun _ i _=>1 - (intOf i).toNat)
 case atStart=>exact⟨0,by omega,rfl,rfl,Hb1,Hc⟩
 case round=>
  obtain⟨k,hk,rfl,rfl,hb,hc⟩:=hrel;rcases(by omega:k=0∨k=1) with rfl | rfl
  · have hcc:=hc.out;go_wp2_with fail;refine(zsi 0 _).mono ?_;rintro e w2 ⟨⟨ma,mc,rfl⟩,hb2⟩;have Hb2:=hid (hb.out.trans (hb2.mono hb.out.size));have Hc2:=hid ((hb2.cell (p:=⟨g,0,none⟩) (ze hcc)).trans hcc);clear hb2 hcc;go_wp2_with fail;go_roundw
    case rel=>exact⟨1,by omega,rfl,rfl,Hb2,Hc2⟩
    case measure=>simp[intOf]
  · go_wp2_with fail;go_ret;exact⟨rfl,hb.out⟩
theorem ztb (w:World):Calls Tryz.prog 127 #[.slice none 0 0] w fun e w'=>e=.returned (.slice none 0 0)∧Below w.heap.size w w':=by
 go_enter Tryz.func127,Tryz.ntmps127;go_wp2_with fail;refine(zta _).mono ?_;rintro e w1 ⟨rfl,hb1⟩;have Hb1:=hid hb1;clear hb1;go_wp2_with fail;go_loopw [3,9] (fun v i wr=>v=.slice none 0 0∧i=.int .i64 0∧wr=w1) (fun _ _ _=>0)
 case atStart=>exact⟨rfl,rfl,rfl⟩
 case round=>
  obtain⟨rfl,rfl,rfl⟩:=hrel;go_wp2_with fail;go_ret;exact⟨rfl,Hb1.out⟩
theorem ztc (w:World):Calls Tryz.prog 126 #[.slice none 0 0] w fun e w'=>e=.returned (.slice none 0 0)∧Below w.heap.size w w':=by
 go_enter Tryz.func126,Tryz.ntmps126;go_wp2_with fail;go_loopw [11] (fun i wr=>i=.int .i64 0∧Hid (Below w.heap.size w wr)∧Hid (wr.cell? ⟨w.heap.size,0,none⟩=some (.slice none 0 0))) (fun _ _=>0)
 case atStart=>exact⟨rfl,hid ((Below.refl _ _).alloc (Nat.le_refl _) _),hid ((zu w _ [.slice none 0 0]).cell 0 rfl)⟩
 case round=>
  obtain⟨rfl,hb,hc⟩:=hrel;have c0:=hc.out;go_wp2_with fail;go_ret;exact⟨rfl,hb.out⟩
theorem ztd (w:World):Calls Tryz.prog 86 #[.slice none 0 0] w fun e w'=>e=.returned (.slice none 0 0)∧Below w.heap.size w w':=by
 go_enter Tryz.func86,Tryz.ntmps86;go_wp2_with fail;refine(ztb _).mono ?_;rintro e w1 ⟨rfl,hb1⟩;have Hb1:=hid hb1;clear hb1;go_wp2_with fail;refine(ztc _).mono ?_;rintro e w2 ⟨rfl,hb2⟩;have Hb2:=hid (Hb1.out.trans (hb2.mono Hb1.out.size));clear hb2;go_wp2_with fail;go_ret;exact⟨rfl,Hb2.out⟩
theorem zte (x f:Value) (w:World):Calls Tryz.prog 216 #[x,.int .i64 0,.int .i64 0,f] w fun e w'=>e=.returned (.tuple #[])∧w'=w:=by
 go_enter Tryz.func216,Tryz.ntmps216;go_wp2;go_loopw [8,9] (fun i _ wr=>i=.int .i64 1∧wr=w) (fun _ _ _=>0)
 case atStart=>exact⟨rfl,rfl⟩
 case round=>
  obtain⟨rfl,rfl⟩:=hrel;go_wp2;go_end0
  exact⟨rfl,rfl⟩
theorem ztf (x l f:Value) (w:World):Calls Tryz.prog 176 #[x,.int .i64 0,.int .i64 0,l,f] w fun e w'=>e=.returned (.tuple #[])∧w'=w:=by
 go_enter Tryz.func176,Tryz.ntmps176;go_wp2;go_loopw [1,2,3,10,11,12,13,14,15,16,17,18,19,20] (fun a b _ _ _ _ _ _ _ _ _ _ _ _ wr=>a=.int .i64 0∧b=.int .i64 0∧wr=w) (fun _ _ _ _ _ _ _ _ _ _ _ _ _ _ _=>0)
 case atStart=>exact⟨rfl,rfl,rfl⟩
 case round=>
  obtain⟨rfl,rfl,rfl⟩:=hrel;go_wp2_with (go_at_call 216;refine(zte _ _ _).mono ?_;rintro e w' ⟨rfl,rfl⟩);exact bodyPost_ret (results_none rfl _ _ _) rfl ⟨rfl,rfl⟩
theorem ztg (f:Value) (w:World):Calls Tryz.prog 129 #[.slice none 0 0,f] w fun e w'=>e=.returned (.tuple #[])∧w'=w:=by
 have Hl:=hid (fun w=>Tryz.bits_Len (0:Int) w (by omega) (by omega));have wr:IntKind.u64.wrap (0:Int)=0:=rfl;go_enter Tryz.func129,Tryz.ntmps129;go_wp2_with (first | (go_at_call 177;refine(Hl.out _).mono ?_;rintro e w' ⟨rfl,rfl⟩) | (go_at_call 176;refine(ztf _ _ _ _).mono ?_;rintro e w' ⟨rfl,rfl⟩));go_end0
 exact⟨rfl,rfl⟩
set_option maxRecDepth 20000 in
theorem zth (w:World):Calls Tryz.prog 89 #[.slice none 0 0] w fun e w'=>(∃a c,e=.returned (.tuple #[.slice none 0 0,.slice a 0 c]))∧Below w.heap.size w w':=by
 go_enter Tryz.func89,Tryz.ntmps89;go_wp2_with fail;go_loopw [4,12] (fun v i wr=>v=.slice none 0 0∧i=.int .i64 0∧wr=w) (fun _ _ _=>0)
 case atStart=>exact⟨rfl,rfl,rfl⟩
 case round=>
  obtain⟨rfl,rfl,rfl⟩:=hrel;go_wp2_with fail;refine(ztg _ _).mono ?_;rintro e w1 ⟨rfl,rfl⟩;obtain⟨w4,hr4,-,hb4⟩:=zqt w1 w1.heap.size 0 (by omega) (Nat.le_refl _);have hr5:(Instr.makeSlice 60 (.int .i64 0) (.int .i64 0)).run Tryz.prog w1=.ok (.slice (some ⟨w1.heap.size,0,none⟩) 0 0) w4:=hr4;have Hb4:=hid hb4;clear hr4 hb4;go_wp2_with fail;clear hr5;go_loopw [8,28] (fun v i wr=>i=.int .i64 0∧wr=w4) (fun _ _ _=>0)
  case atStart=>exact⟨rfl,rfl⟩
  case round=>
   obtain⟨rfl,rfl⟩:=hrel;go_wp2_with fail;go_ret2;exact⟨⟨_,_,rfl⟩,Hb4.out⟩
set_option maxRecDepth 20000 in
theorem zti (w:World) (hD:Door w):Calls Tryz.prog 54 #[.slice none 0 0] w fun e w'=>(∃v,e=.returned (.tuple #[v,.nilIface])∧w'.ownsRow w.heap.size 5 1 v 2 (u8s [0,0]))∧Below w.heap.size w w':=by
 have HC:=hid (zsc none 0 0 [] w (zd2 w) hD);have hv0:yd 0=[0]:=rfl;clear hD;go_enter Tryz.func54,Tryz.ntmps54;go_wp2_with fail;refine HC.out.mono ?_;rintro e w1 ⟨rfl,hb1⟩;have Hb1:=hid hb1;have hck:zn (vq (ckF []))=.nilIface:=rfl;rw[hck];clear hb1 hck;go_wp2_with fail;refine(ztd _).mono ?_;rintro e w2 ⟨rfl,hb2⟩;have Hb2:=hid (Hb1.out.trans (hb2.mono Hb1.out.size));clear hb2;go_wp2_with fail;refine(zi0 (.slice none 0 0) 0 w.heap.size [] 0 w2 (by omega) (World.ownsRow_nil _ _ _ _) Hb2.out.size (by omega)).mono ?_;rintro e w3 ⟨v3,rfl,ho3,hb3⟩;have Ho3:=hid (show w3.ownsRow w.heap.size 5 1 v3 1 (u8s [0]) from ho3);have Hb3:=hid (Hb2.out.trans hb3);clear ho3 hb3;go_wp2_with fail;go_loopw [6,29] (fun v i wr=>v=v3∧i=.int .i64 0∧wr=w3) (fun _ _ _=>0)
 case atStart=>exact⟨rfl,rfl,rfl⟩
 case round=>
  obtain⟨rfl,rfl,rfl⟩:=hrel;go_wp2_with fail;refine(zth _).mono ?_;rintro e w4 ⟨⟨sa,sc,rfl⟩,hb4⟩;have Ho4:=hid (yf Ho3.out hb4);have Hb4:=hid (Hb3.out.trans (hb4.mono Hb3.out.size));clear hb4;go_wp2_with fail;refine(zsy none 0 0 0 [] w4 (zgi _) (by first | trivial | (intro i hi;simp at hi) | simp[zae] | decide) (by omega) (by omega)).mono ?_;rintro e w5 ⟨⟨v5,rfl,ho5⟩,hb5⟩;obtain⟨da,dc,rfl⟩:=qv ho5;have Ho5:=hid (yf Ho4.out hb5);have Hb5:=hid (Hb4.out.trans (hb5.mono Hb4.out.size));clear hb5 ho5;go_wp2_with fail;refine(zi0 _ 1 w.heap.size _ 0 w5 (by omega) Ho5.out Hb5.out.size (by omega)).mono ?_;rintro e w6 ⟨v6,rfl,ho6,hb6⟩;have Ho6:=hid (show w6.ownsRow w.heap.size 5 1 v6 2 (u8s [0,0]) from ho6);have Hb6:=hid (Hb5.out.trans hb6);clear ho6 hb6;go_wp2_with fail;go_loopw [6,55] (fun v i wr=>v=v6∧i=.int .i64 0∧wr=w6) (fun _ _ _=>0)
  case atStart=>exact⟨rfl,rfl,rfl⟩
  case round=>
   obtain⟨rfl,rfl,rfl⟩:=hrel;go_wp2_with fail;go_ret2;exact⟨⟨_,rfl,Ho6.out⟩,Hb6.out⟩
theorem Rf.keep {w w':World} {g:Nat} {a:Option Addr} {n cap E:Nat} {l:List Nat} (hB:∀W,w.grownBy W (some g)→Rf W a n cap E l) (h:w.grownBy w' (some g)):∀W,w'.grownBy W (some g)→Rf W a n cap E l:=fun W hW=>hB W (zp h hW)
theorem za4 {w w' w2:World} {r r2:Option Nat} (h:w.grownBy w' r) (h2:w'.grownBy w2 r2) (hk:∀k,r2=some k→w.heap.size≤k):w.grownBy w2 r:=
 ⟨h2.os.trans h.os,h2.tape.trans h.tape,h2.output.trans h.output,Nat.le_trans h.size h2.size,fun k hlt hne=>(h2.block k (Nat.lt_of_lt_of_le hlt h.size) (fun e=>by have:=hk k e.symm;omega)).trans (h.block k hlt hne)⟩
theorem CurM.grown {w w':World} {g:Nat} {B:Value} {E:Nat} {s:Except (Nat×Nat) Nat} {r:Option Nat} (h:CurM w g B E s) (hg:w.grownBy w' r) (hr:some g≠r):CurM w' g B E s:=by
 cases s with
 | ok q=>exact Row.grown h hg hr
 | error e=>obtain⟨q,h⟩:=h;exact⟨q,h.grown hg hr⟩
theorem CurM.ne_own {w:World} {g base sz n:Nat} {B V:Value} {E:Nat} {s:Except (Nat×Nat) Nat} {e:TypeId} {xs:List Value} (h:CurM w g B E s) (ho:w.ownsRow base e sz V n xs) (hT:106≠e):∀k,V.ownBlock=some k→k≠g:=by
 cases s with
 | ok q=>exact Row.ne_own h ho hT
 | error e=>obtain⟨q,h⟩:=h;exact Row.ne_own h ho hT
def FS (w0:World) (g:Nat) (B:Value) (q E c p:Nat) (W:World):Prop:=w0.grownBy W (some g)∧(Row W g 106 (zau B q E 0 0 false)∨Row W g 106 (zau B q E c p false))
theorem FS.drew {w0 W:World} {g q E c p:Nat} {B:Value} (h:FS w0 g B q E c p W):FS w0 g B q E c p W.drew:=⟨zqn h.1 1,h.2⟩
theorem FS.later {w0 W W':World} {g q E c p:Nat} {B:Value} (h:FS w0 g B q E c p W) (hb:Below W.heap.size W W'):FS w0 g B q E c p W':=⟨yp h.1 hb,h.2.imp (fun h=>h.later hb) (fun h=>h.later hb)⟩
theorem FS.next {w0 W:World} {g q E c p:Nat} {B:Value} (h:FS w0 g B q E c p W):W.cell? ⟨g,1,none⟩=some (.int .i64 q):=by
 rcases h.2 with h | h
 · exact h.cell 1 rfl
 · exact h.cell 1 rfl
theorem FS.one {w0 W:World} {g q E c p:Nat} {B:Value} (h:FS w0 g B q E c p W):w0.grownBy W (some g):=h.1
theorem OwnV.slice {w:World} {base:Nat} {V:Value} {v:Vec} (h:OwnV w base V v):∃a c,V=.slice a v.length c:=by
 obtain⟨ss,ho,-⟩:=h;exact qv ho
theorem OwnV.ne {w:World} {base g:Nat} {B V:Value} {E:Nat} {s:Except (Nat×Nat) Nat} {v:Vec} (hV:OwnV w base V v) (h:CurM w g B E s):some g≠V.ownBlock:=by
 obtain⟨ss,ho,-⟩:=hV;exact fun e=>CurM.ne_own h ho (by decide) g e.symm rfl
theorem OwnV.row {w:World} {base r:Nat} {V:Value} {v:Vec} {T:TypeId} {C:List Value} (hV:OwnV w base V v) (h:Row w r T C) (hT:T≠93):some r≠V.ownBlock:=by
 obtain⟨ss,ho,-⟩:=hV;exact fun e=>h.ne_own ho hT r e.symm rfl
theorem CurM.notT {w:World} {g:Nat} {B:Value} {E:Nat} {s:Except (Nat×Nat) Nat} (h:CurM w g B E s):NotT w g:=by
 cases s with
 | ok q=>exact Row.notT h (by unfold qw;decide)
 | error e=>obtain⟨q,h⟩:=h;exact h.notT (by unfold qw;decide)
end
section
def Fwd (T:zl):Prop:=∀p x q,T p=.ok (x,q)→p<q
def okC (n:Nat) (lim:Int):Prop:=(n:Int)≤lim∨n=0
instance (n:Nat) (lim:Int):Decidable (okC n lim):=by unfold okC;infer_instance
theorem zck {T:zl} {p x q:Nat} (h:T p=.ok (x,q)):nmP T p=.ok (x,q):=by unfold nmP;rw[h]
theorem ztj {x rest:Nat} {lim:Int} (h1:okC x lim) (h2:x≤rest):zm x lim rest=0:=by
 unfold zm;rw[if_neg (by rintro⟨h3,h4⟩;rcases h1 with h | h <;> omega),if_neg (by omega)]
theorem ztk {x rest:Nat} {lim:Int} (h1:¬okC x lim):zm x lim rest=7:=by
 unfold zm okC at*;rw[if_pos ⟨by omega,fun h=>h1 (.inr h)⟩]
theorem zcl {T:zl} {E p x q:Nat} {lim:Int} (h:T p=.ok (x,q)) (h1:okC x lim) (h2:q+x≤E):zv T E lim p=.ok (x,q):=by
 unfold zv;rw[zck h,zt,ztj h1 (by omega),if_pos rfl]
theorem zfs {T:zl} {E p x q:Nat} {lim:Int} (h:T p=.ok (x,q)) (h1:¬okC x lim):zv T E lim p=.error (7,p):=by
 unfold zv;rw[zck h,zt,ztk h1,if_neg (by omega)]
theorem zed {α:Type} {l:List α} {d:Nat} (hd:d<l.length):(l.take (d+1)).getLast?=some l[d]:=by
 rw[List.take_succ_eq_append_getElem hd];exact List.getLast?_concat
theorem ztl {T:zl} {a b p q:Nat} (h:yu T p [a,b] q):∃r,T p=.ok (a,r)∧T r=.ok (b,q):=by
 obtain⟨r,h1,s,h2,rfl⟩:=h;exact⟨r,h1,h2⟩
theorem ztm {l:List Iv} {a d:Nat} (hD:zae l a) (hlt:yj l) (hd:d<l.length):loP (zo (l.take d)) a (jo l a d)=some (zc l d).1:=by
 unfold zo jo
 cases d with
 | zero=>rw[if_pos rfl];simp[loP]
 | succ n=>
  have h1:=(hD (n+1) hd).2 (by omega);have h2:=hlt _ (zax hd);rw[if_neg (by omega),zed (by omega)];rw[show n+1 - 1=n by omega,qg (show n<l.length by omega)] at*;simp only[Option.map_some,loP];rw[if_pos (by omega)];congr 1;omega
theorem zll {T:zl} {l:List Iv} {a d p q:Nat} (hD:zae l a) (hlt:yj l) (hd:d<l.length) (h:yu T p [jo l a d,(zc l d).2 - (zc l d).1] q):∃w,ivP T (zo (l.take d)) a p=.ok ((zc l d,w),q):=by
 obtain⟨r,h1,h2⟩:=ztl h;refine⟨r,?_⟩;have g1:=(hD d hd).1;have g2:=hlt _ (zax hd);unfold ivP;rw[zck h1,zt,ztm hD hlt hd];simp only[hiP];rw[zck h2,zt,show (zc l d).1+((zc l d).2 - (zc l d).1)=(zc l d).2 by omega,if_pos g2.2]
theorem zlm {T:zl} {mx:Nat} {h:List Iv} (hD:zae h 1) (hlt:yj h) (hm:∀s∈h,s.2<mx):∀d,d≤h.length→∀{p r:Nat},yu T p (jr h 1 d) r→∀k,y7 T mx (d+k) [] p=y7 T mx k (h.take d) r
 | 0,_,p,r,hr,k=>by cases hr;rw[List.take_zero,Nat.zero_add]
 | d+1,hd,p,r,hr,k=>by
   rw[jr] at hr;obtain⟨s,h1,h2⟩:=jt.1 hr;obtain⟨w,h3⟩:=zll hD hlt hd h2;rw[show d+1+k=d+(k+1) by omega,zlm hD hlt hm d (by omega) h1 (k+1),y7,h3,zt];unfold ko;rw[if_neg (by have:=hm _ (zax (show d<h.length from hd));simp only;omega),List.take_succ_eq_append_getElem hd,qg hd]
theorem zln {T:zl} {E:Nat} {lim:Int} (hT:Fwd T) {v:Vec} (hv:CanV v) (hl:LtV v) (hm:∀e∈v,∀s∈e.2.2,s.2<e.2.1) {d p q:Nat} (hd:d<v.length) (h:yu T p (zaf v d) q) (hq:q≤E):
 (okC (zg v d).2.2.length lim→qo T E lim (v.take d) p=.ok (zg v d,q))∧(¬okC (zg v d).2.2.length lim→∃w,qo T E lim (v.take d) p=.error (7,w)):=by
 have hmem:=zc2 hd;obtain⟨r3,⟨r1,t1,r2,t2,r2',t3,rfl⟩,h4⟩:=jt.1 h
 have hrep:jv (v.take d) (zbu v d)=some (zg v d).1:=by
  unfold jv zbu
  cases d with
  | zero=>rw[if_pos rfl];simp
  | succ n=>
   have h1:=List.pairwise_iff_getElem.1 hv.asc n (n+1) (by omega) hd (by omega);have h2:=(hl _ hmem).rep;unfold zdu at h1;rw[if_neg (by omega),zed (by omega)];rw[ve hd] at h2 ⊢;rw[show n+1 - 1=n by omega,ve (show n<v.length by omega)];simp only;rw[if_pos (by omega)];congr 1;omega
 have hcan:=hv.ent _ hmem;have hlen:=za3 hT h4;have hdl:(zfj (zg v d).2.2 1).length=2*(zg v d).2.2.length:=zkg _ _ _;have hh:=zlm (T:=T) (mx:=(zg v d).2.1) (zrn hcan.good) (hl _ hmem).holes (hm _ hmem) (zg v d).2.2.length (Nat.le_refl _) h4 0;rw[List.take_length,Nat.add_zero,y7] at hh;unfold qo;rw[zck t1,zt,hrep];simp only[zaj];rw[zck t2,zt];unfold zat;constructor
 · intro hc;rw[zcl t3 hc (by omega),zt,hh,zt]
 · intro hc;exact⟨r2,by rw[zfs t3 hc,zag]⟩
theorem zlo {v:Vec} (hv:CanV v):∀e∈v,∀s∈e.2.2,s.2<e.2.1:=fun e he s hs=>by
 have h:=hv.ent e he;have h1:=h.below s hs;rcases Nat.lt_or_ge s.2 e.2.1 with h2 | h2
 · exact h2
 · have h3:=h.top;have h4:mem e.2.2 e.2.1=true:=mem_iff.2 ⟨s,hs,by have:=h.good.ok s hs;omega,by omega⟩;rw[h3] at h4;cases h4
theorem zhq {T:zl} {E:Nat} {lim:Int} (hT:Fwd T) {v:Vec} (hv:CanV v) (hl:LtV v):∀d,d≤v.length→∀{p r:Nat},yu T p (ky v d) r→r≤E→
 ∃r0,T p=.ok (v.length,r0)∧r0+d≤r∧∀k,(∀i,i<d→okC (zg v i).2.2.length lim)→yx T E lim (d+k) [] r0=yx T E lim k (v.take d) r
 | 0,_,p,r,hr,hE=>by
   obtain⟨r0,h1,rfl⟩:=hr
   exact⟨r0,h1,by omega,fun k _=>by rw[List.take_zero,Nat.zero_add]⟩
 | d+1,hd,p,r,hr,hE=>by
   rw[ky] at hr;obtain⟨s,h1,h2⟩:=jt.1 hr;have h3:=za3 hT h2;have h4:3≤(zaf v d).length:=by unfold zaf;simp
   obtain⟨r0,h5,h6,h7⟩:=zhq hT hv hl d (by omega) h1 (show s≤E by omega);refine⟨r0,h5,by omega,fun k hk=>?_⟩;rw[show d+1+k=d+(k+1) by omega,h7 (k+1) (fun i hi=>hk i (by omega)),yx,(zln hT hv hl (zlo hv) hd h2 hE).1 (hk d (by omega)),zt,List.take_succ_eq_append_getElem hd,ve hd]
theorem zlp {P:Nat→Prop} [DecidablePred P] {n:Nat} (h:¬∀i,i<n→P i):∃i,i<n∧¬P i∧∀j,j<i→P j:=by
 induction n with
 | zero=>exact absurd (fun i hi=>by omega) h
 | succ n ih=>
  by_cases h1:∀i,i<n→P i
  · refine⟨n,by omega,fun h2=>h fun i hi=>?_,h1⟩;rcases Nat.lt_or_ge i n with h3 | h3
    · exact h1 i h3
    · rwa [show i=n by omega]
  · obtain⟨i,hi,h2,h3⟩:=ih h1;exact⟨i,by omega,h2,h3⟩
def okV (le lh:Int) (v:Vec):Prop:=okC v.length le∧∀i,i<v.length→okC (zg v i).2.2.length lh
theorem zhr (v:Vec) (i:Nat):∀d,i≤d→∃R,ky v d=ky v i++R
 | 0,h=>⟨[],by rw[show i=0 by omega,List.append_nil]⟩
 | d+1,h=>by
   rcases Nat.lt_or_ge d i with h1 | h1
   · exact⟨[],by rw[show i=d+1 by omega,List.append_nil]⟩
   · obtain⟨R,e⟩:=zhr v i d h1;exact⟨R++zaf v d,by rw[ky,e,List.append_assoc]⟩
theorem zlq {T:zl} {E:Nat} {le lh:Int} (hT:Fwd T) {v:Vec} (hv:CanV v) (hl:LtV v) (hne:v≠[]) {p r:Nat} (hr:yu T p (zar v) r) (hE:r≤E):
 (okV le lh v→qz T E le lh p=.ok (v,r))∧(¬okV le lh v→∃w,qz T E le lh p=.error (7,w)):=by
 obtain⟨r0,h1,h2,h3⟩:=zhq (E:=E) (lim:=lh) hT hv hl v.length (Nat.le_refl _) hr hE;have h0:v.length≠0:=fun h=>hne (List.length_eq_zero_iff.1 h)
 constructor
 · rintro⟨k1,k2⟩;have:=h3 0 k2;rw[Nat.add_zero,List.take_length,yx] at this;unfold qz;rw[zcl h1 k1 (by omega),zt,if_neg h0,this]
 · intro hn;by_cases k1:okC v.length le
   · obtain⟨i,hi,hb,hlt⟩:=zlp (P:=fun i=>okC (zg v i).2.2.length lh) (n:=v.length) (fun h=>hn ⟨k1,h⟩);obtain⟨R,e⟩:=zhr v (i+1) v.length hi;have hr':=hr;unfold zar at hr';rw[e] at hr';obtain⟨s,g1,g2⟩:=jt.1 hr';have g3:=za3 hT g2;rw[ky] at g1;obtain⟨t,g4,g5⟩:=jt.1 g1;have g6:=za3 hT g5;obtain⟨r0',h1',-,h3'⟩:=zhq (E:=E) (lim:=lh) hT hv hl i (by omega) g4 (by omega);obtain rfl:r0'=r0:=by rw[h1] at h1';injection h1' with h;injection h with _ h;exact h.symm
     obtain⟨w,hw⟩:=(zln (E:=E) hT hv hl (zlo hv) hi g5 (by omega)).2 hb;have:=h3' (v.length - i) hlt;rw[show i+(v.length - i)=v.length by omega,show v.length - i=(v.length - i - 1)+1 by omega,yx,hw,zag] at this
     exact⟨w,by
      unfold qz;rw[zcl h1 k1 (by omega),zt,if_neg h0,this]⟩
   · exact⟨p,by
      unfold qz;rw[zfs h1 k1,zag]⟩
end
section
open Go.RowKit
def SegB (wz w:World) (base:Nat) (K:Value) (vs:List Vec) (l:List Iv) (ix:List Nat) (all:Value) (la:List Iv):Prop:=
 ∃X Y,base≤wz.heap.size∧Steady 0 za0 wz w∧(∀i,i<vs.length→EnSl wz 0 (Y i) (yt vs i))∧w.ownsRow base 97 2 K vs.length (j9 vs.length X Y)∧
  (∀i,i<vs.length→w.ownsRow wz.heap.size 89 2 (X i) (itN l ix i).length (ivC (itN l ix i)))∧(∀i,i<vs.length→∀j,j<vs.length→i≠j→∀b,(X i).ownBlock=some b→(X j).ownBlock≠some b)∧
  w.ownsRow wz.heap.size 89 2 all la.length (ivC la)∧∀i,i<vs.length→∀b,(X i).ownBlock=some b→all.ownBlock≠some b
theorem SegB.seg {wz w:World} {base:Nat} {K all:Value} {vs:List Vec} {l la:List Iv} {ix:List Nat} (h:SegB wz w base K vs l ix all la):SegM w base K vs l ix:=by
 obtain⟨X,Y,h1,h2,h3,h4,h5,h6,-,-⟩:=h;exact⟨wz,X,Y,h1,h2,h3,h4,h5,h6⟩
theorem SegB.own {wz w:World} {base:Nat} {K all:Value} {vs:List Vec} {l la:List Iv} {ix:List Nat} (h:SegB wz w base K vs l ix all la):w.ownsRow base 89 2 all la.length (ivC la):=by
 obtain⟨X,Y,h1,h2,h3,h4,h5,h6,h7,h8⟩:=h;exact vw h7 h1
theorem SegB.steady {wz w w':World} {base:Nat} {K all:Value} {vs:List Vec} {l la:List Iv} {ix:List Nat} (h:SegB wz w base K vs l ix all la) (hs:Steady 0 qw w w'):SegB wz w' base K vs l ix all la:=by
 obtain⟨X,Y,h1,h2,h3,h4,h5,h6,h7,h8⟩:=h;exact⟨X,Y,h1,h2.trans (hs.weak fun T hT=>hT.imp id .inl),h3,zcg h4 hs (.inr (.inr rfl)),fun i hi=>zcg (h5 i hi) hs (.inl rfl),h6,zcg h7 hs (.inl rfl),h8⟩
theorem SegB.grown {wz w w':World} {base g:Nat} {K all:Value} {vs:List Vec} {l la:List Iv} {ix:List Nat} (h:SegB wz w base K vs l ix all la) (hN:NotT w g) (hg:w.grownBy w' (some g)):SegB wz w' base K vs l ix all la:=h.steady (zbw hN (Nat.zero_le _) hg)
theorem SegB.later {wz w w':World} {base:Nat} {K all:Value} {vs:List Vec} {l la:List Iv} {ix:List Nat} (h:SegB wz w base K vs l ix all la) (hb:Below w.heap.size w w'):SegB wz w' base K vs l ix all la:=h.steady (.of_below hb)
theorem ztn {w:World} {base sz n:Nat} {e:TypeId} {v:Value} {xs:List Value} (h:w.ownsRow base e sz v n xs):∀k,v.ownBlock=some k→∃C fr,w.heap[k]?=some (.cells C e fr):=fun k hk=>by
 rcases h.2 with ⟨e,_⟩ | ⟨b,cap',cur,e,_,hh,_⟩
 · rw[e] at hk;cases hk
 · have e':b=k:=by rw[e] at hk;simpa [Value.ownBlock] using hk
   subst e';exact⟨_,_,hh⟩
theorem SegB.more {wz w:World} {base:Nat} {K all:Value} {vs:List Vec} {l la:List Iv} {ix:List Nat} (h:SegB wz w base K vs l ix all la) (s:Iv) (A:Option Addr) (c:Nat) (hr:Rd w 2 A 1 (ivC [s])) (hb:la.length+1≤1000000000000):
 ∃S' w',(Builtin.append_ #[91,91] 91 #[all,.slice A 1 c]).run Tryz.prog w=.ok S' w'∧w.grownBy w' all.ownBlock∧(∀k,all.ownBlock=some k→base≤k∧∃C fr,w.heap[k]?=some (.cells C 89 fr))∧SegB wz w' base K vs l ix S' (la++[s]):=by
 obtain⟨X,Y,h1,h2,h3,h4,h5,h6,h7,h8⟩:=h;obtain⟨S',w',hrun,ho,hg,hat⟩:=zfn wz.heap.size all _ _ h7 A c s hr (by omega) h2.size;have keep:∀k,k<w.heap.size→all.ownBlock≠some k→w'.heap[k]?=w.heap[k]?:=fun k hk hne=>hg.block k hk fun e=>hne e.symm
 refine⟨S',w',hrun,hg,fun k hk=>⟨Nat.le_trans h1 (h7.lt k hk).1,ztn h7 k hk⟩,X,Y,h1,⟨Nat.le_trans h2.size hg.size,fun k hk hp=>?_⟩,h3,?_,fun i hi=>?_,h6,by rw[List.length_append];exact ho,fun i hi b hx hy=>?_⟩
 · rw[keep k (Nat.lt_of_lt_of_le hk h2.size) fun e=>by have:=(h7.lt k e).1;omega];exact h2.row k hk hp
 · exact yi h4 fun k hk=>keep k (h4.lt k hk).2 fun e=>zah h4 h7 (by decide) k hk e
 · exact yi (h5 i hi) fun k hk=>keep k ((h5 i hi).lt k hk).2 (h8 i hi k hk)
 · rcases hat b hy with h' | h'
   · exact h8 i hi b hx h'
   · have:=((h5 i hi).lt b hx).2;omega
theorem SegB.put {wz w:World} {base g cap:Nat} {all:Value} {la:List Iv} {vs:List Vec} {l:List Iv} {ix:List Nat} (h:SegB wz w base (.slice (some ⟨g,0,none⟩) vs.length cap) vs l ix all la) (hli:ix.length=l.length) {i:Nat} (hi:i<vs.length) {S:Value} (hS:w.cell? ⟨g,i*2,none⟩=some S) (s:Iv)
 (W:World) (hW:Below w.heap.size w W) (A:Option Addr) (c:Nat) (hr:Rd W 2 A 1 (ivC [s])) (hb:l.length+1≤1000000000000):
 ∃S' w',(Builtin.append_ #[91,91] 91 #[S,.slice A 1 c]).run Tryz.prog W=.ok S' w'∧(∃gS m cS,S'=.slice (some ⟨gS,0,none⟩) m cS)∧W.grownBy w' S.ownBlock∧(∀k,S.ownBlock=some k→base≤k∧∃C fr,W.heap[k]?=some (.cells C 89 fr))∧w'.cell? ⟨g,i*2,none⟩=some S∧w'.frozen? ⟨g,i*2,none⟩=false∧
  ∀w2,w'.grownBy w2 none→SegB wz (w2.setCell ⟨g,i*2,none⟩ S') base (.slice (some ⟨g,0,none⟩) vs.length cap) vs (l++[s]) (ix++[i]) all la:=by
 obtain⟨X,Y,h1,h2,h3,h4,h5,h6,h7,h8⟩:=h
 have e0:X i=S:=by
  have c1:=h4.cells (g:=g) rfl _ _ (zbe hi X Y).1;rw[yv,Nat.zero_add,hS] at c1;injection c1 with c1;exact c1.symm
 subst e0;have k4:=yf h4 hW;have k5:=fun j hj=>yf (h5 j hj) hW
 have hz:wz.heap.size≤W.heap.size:=Nat.le_trans h2.size hW.size;have hit:(itN l ix i).length≤l.length:=zhc _ _ _ _;obtain⟨S',w',hrun,ho,hg,hat⟩:=zfn wz.heap.size (X i) _ _ (k5 i hi) A c s hr (by omega) hz
 have hty:∀k,(X i).ownBlock=some k→∃C fr,W.heap[k]?=some (.cells C 89 fr):=fun k hk=>by
  rcases(k5 i hi).2 with ⟨e,_⟩ | ⟨b,cap',cur,e,_,hh,_⟩
  · rw[e] at hk;cases hk
  · have e':b=k:=by rw[e] at hk;simpa [Value.ownBlock] using hk
    subst e';exact⟨_,_,hh⟩
 have hne:(X i).ownBlock≠some g:=fun e=>zah k4 (k5 i hi) (by decide) g rfl e
 have e4:w'.ownsRow base 97 2 (.slice (some ⟨g,0,none⟩) vs.length cap) vs.length (j9 vs.length X Y):=yi k4 fun k hk=>by
  have e:g=k:=by simpa [Value.ownBlock] using hk
  subst e;exact hg.block g (k4.lt g rfl).2 fun e=>hne e.symm
 have hcell:w'.cell? ⟨g,i*2,none⟩=some (X i):=by
  have c1:=e4.cells (g:=g) rfl _ _ (zbe hi X Y).1;rwa [yv,Nat.zero_add] at c1
 obtain⟨gS,cS,eS,-⟩:=zbc ho (Nat.succ_pos _);refine⟨S',w',hrun,⟨gS,_,cS,eS⟩,hg,fun k hk=>⟨Nat.le_trans h1 ((k5 i hi).lt k hk).1,hty k hk⟩,hcell,e4.frozenAt _,fun w2 hw2=>?_⟩;have f4:=yi (w':=w2) e4 fun k hk=>hw2.block k (e4.lt k hk).2 (by simp)
 have fS:=yi (w':=w2) ho fun k hk=>hw2.block k (ho.lt k hk).2 (by simp)
 obtain⟨p1,p2⟩:=f4.stored (i*2) S'
 have hrow:∃C fr,w2.heap[g]?=some (.cells C 97 fr):=by
  rcases f4.2 with ⟨h',_⟩ | ⟨g',cap',cur,h',_,hh,_⟩
  · cases h'
  · cases h';exact⟨_,_,hh⟩
 obtain⟨C,fr,hrow⟩:=hrow;have hset:∀k,k≠g→k<w2.heap.size→(w2.setCell ⟨g,i*2,none⟩ S').heap[k]?=w2.heap[k]?:=fun k hk hl=>p2.block k hl fun e=>hk (by injection e)
 have hst:Steady 0 za0 w2 (w2.setCell ⟨g,i*2,none⟩ S'):=.setCell hrow (Nat.zero_le _) (by rintro(h | h) <;> cases h)
 have hsWw:Steady 0 za0 wz w':=⟨Nat.le_trans hz hg.size,fun k hk hp=>by
  have hkW:k<W.heap.size:=Nat.lt_of_lt_of_le hk hz;have hkw:=Nat.lt_of_lt_of_le hk h2.size;rw[hg.block k hkW fun e=>by have:=((k5 i hi).lt k e.symm).1;omega,hW.block k hkw];exact h2.row k hk hp⟩
 refine⟨upd X i S',Y,h1,(hsWw.trans (⟨hw2.size,fun k hk _=>hw2.block k hk (by simp)⟩:Steady 0 za0 w' w2)).trans hst,h3,?_,fun j hj=>?_,fun a ha b hb hab x hx=>?_,?_,fun a ha x hx=>?_⟩
 · rw[←zhe hi];exact p1
 · by_cases e:j=i
   · subst e;rw[zai,zfq hli,if_pos rfl,List.length_append]
     exact yi fS fun k hk=>hset k (fun e=>by
      subst e;exact zah f4 fS (by decide) k rfl hk) (fS.lt k hk).2
   · rw[kj _ _ e,zfq hli,if_neg (fun h=>e h.symm),List.append_nil];refine yi (h5 j hj) fun k hk=>?_
     have hl5:=(h5 j hj).lt k hk;have hkW:k<W.heap.size:=Nat.lt_of_lt_of_le hl5.2 hW.size;rw[hset k (fun e'=>by subst e';exact zah h4 (h5 j hj) (by decide) k rfl hk) (Nat.lt_of_lt_of_le hkW (Nat.le_trans hg.size hw2.size)),hw2.block k (Nat.lt_of_lt_of_le hkW hg.size) (by simp),hg.block k hkW (fun e'=>h6 j hj i hi e k hk e'.symm),hW.block k hl5.2]
 · by_cases ea:a=i
   · subst ea;rw[zai] at hx;rw[kj _ _ (fun e=>hab e.symm)];intro hy;rcases hat x hx with h' | h'
     · exact h6 a ha b hb hab x h' hy
     · have:=((h5 b hb).lt x hy).2;have:=hW.size;omega
   · rw[kj _ _ ea] at hx;by_cases eb:b=i
     · subst eb;rw[zai];intro hy;rcases hat x hy with h' | h'
       · exact h6 a ha b hb hab x hx h'
       · have:=((h5 a ha).lt x hx).2;have:=hW.size;omega
     · rw[kj _ _ eb];exact h6 a ha b hb hab x hx
 · have hl7:=fun k hk=>h7.lt k hk
   refine yi h7 fun k hk=>?_
   have hkW:k<W.heap.size:=Nat.lt_of_lt_of_le (h7.lt k hk).2 hW.size;rw[hset k (fun e'=>by subst e';exact zah h4 h7 (by decide) k rfl hk) (Nat.lt_of_lt_of_le hkW (Nat.le_trans hg.size hw2.size)),hw2.block k (Nat.lt_of_lt_of_le hkW hg.size) (by simp),hg.block k hkW (fun e'=>h8 i hi k e'.symm hk),hW.block k (h7.lt k hk).2]
 · by_cases ea:a=i
   · subst ea;rw[zai] at hx;intro hy;rcases hat x hx with h' | h'
     · exact h8 a ha x h' hy
     · have:=(h7.lt x hy).2;have:=hW.size;omega
   · rw[kj _ _ ea] at hx;exact h8 a ha x hx
