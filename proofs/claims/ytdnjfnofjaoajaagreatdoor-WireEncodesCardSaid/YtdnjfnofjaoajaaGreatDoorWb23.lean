/- Walks and laws, joined: Wb23. -/
import Derived.Test.YtdnjfnofjaoajaaGreatDoorWb22
set_option linter.unusedVariables false
set_option maxHeartbeats 16000000
namespace Go.Proofs.YtdnjfnofjaoajaaGreatDoor
open Lib (hid)
section
open Go.RowKit Go.Maps
theorem z5e (b:Bool):plainElem (H:=Value) Tryz.prog 4 (.bool b)=some (.lit (.bool b),[]):=plainElem_bool Tryz.underlying4 b
theorem wfI {x:Nat} (h:x<9223372036854775808):(Lit.int .i64 (x:Int)).wf=true:=by
 simp[Lit.wf,IntKind.min,IntKind.max,IntKind.signed,IntKind.bits];omega
theorem zuw:Maps.Keyed Tryz.prog 3:=int_keyed Tryz.underlying3
theorem z5f {x:Nat} (h:x<9223372036854775808):keyOf Tryz.prog 3 (.int .i64 (x:Int))=some (.int .i64 (x:Int)):=keyOf_int_mk Tryz.underlying3 (wfI h)
theorem z5g {r x:Nat} (h:r≠x):Lit.int .i64 (r:Int)≠Lit.int .i64 (x:Int):=fun e=>h (by cases e;rfl)
def UsedM (w:World) (U:Nat) (ix:List Nat):Prop:=
 ∃n D,w.ownsMap Tryz.prog 3 (plainElem (H:=Value) Tryz.prog 4) U n D∧n≤ix.length∧(∀i:Nat,Maps.has D (.int .i64 (i:Int))=decide (i∈ix))∧∀N,(∀i∈ix,i<N)→Maps.size D=kk ix N
theorem zux (w:World):UsedM (w.alloc (.map #[] 0)) w.heap.size []:=
 ⟨0,.map [],World.ownsMap_made _ _ _ _,Nat.le_refl _,fun i=>rfl,fun N _=>(ztj N).symm⟩
theorem UsedM.same {w w':World} {U:Nat} {ix:List Nat} (h:UsedM w U ix) (hk:w'.heap[U]?=w.heap[U]?):UsedM w' U ix:=by
 obtain⟨n,D,⟨es,clock,h1,h2⟩,h3⟩:=h;exact⟨n,D,⟨es,clock,hk.trans h1,h2⟩,h3⟩
theorem UsedM.notT {w:World} {U:Nat} {ix:List Nat} (h:UsedM w U ix):NotT w U:=by
 obtain⟨n,D,⟨es,clock,h1,h2⟩,h3⟩:=h;exact z4y h1
theorem UsedM.lt {w:World} {U:Nat} {ix:List Nat} (h:UsedM w U ix):U<w.heap.size:=by
 obtain⟨n,D,⟨es,clock,h1,h2⟩,h3⟩:=h;exact(Array.getElem?_eq_some_iff.1 h1).1
theorem UsedM.ne {w:World} {U g:Nat} {ix:List Nat} {C:Array Value} {T:TypeId} {fr:Nat×Nat} (h:UsedM w U ix) (hg:w.heap[g]?=some (.cells C T fr)):U≠g:=by
 obtain⟨n,D,⟨es,clock,h1,h2⟩,h3⟩:=h;intro e;subst e;rw[h1] at hg;injection hg with hg;cases hg
theorem UsedM.put {w:World} {U:Nat} {ix:List Nat} (h:UsedM w U ix) {i:Nat} (hi:i<9223372036854775808) (hl:ix.length<9223372036854775807):
 ∃w',(Instr.mapUpdate 117 (.map (some U)) (.int .i64 (i:Int)) (.bool true)).run Tryz.prog w=.ok () w'∧UsedM w' U (ix++[i])∧w.grownBy w' (some U):=by
 obtain⟨n,D,h1,h2,h3,h4⟩:=h;obtain⟨w',hrun,r1,r2⟩:=h1.update zuw Tryz.underlying117 (by unfold maxLen;omega) (z5f hi) (z5e true);have hT:=h1.tidy zuw;refine⟨w',hrun,⟨n+1,_,r1,by simp;omega,fun j=>?_,fun N hN=>?_⟩,r2⟩
 · by_cases e:j=i
   · subst e;rw[has_put_same hT.isMap (show WideAt.IsKeyLit (.int .i64 (j:Int)) from trivial)];simp
   · rw[has_put_other (z5g e),h3 j];simp[e]
 · have hiN:i<N:=hN i (by simp);rw[size_put hT,h3 i,h4 N (fun j hj=>hN j (by simp[hj])),zth hiN];by_cases e:i∈ix
   · simp[e]
   · simp[e]
theorem UsedM.len {w:World} {U:Nat} {ix:List Nat} (h:UsedM w U ix) (N:Nat) (hN:∀i∈ix,i<N) (ty:TypeId):(Builtin.len_ #[117] ty #[.map (some U)]).run Tryz.prog w=.ok (.int .i64 ((kk ix N:Nat):Int)) w:=by
 obtain⟨n,D,h1,h2,h3,h4⟩:=h;rw[h1.len Tryz.underlying117 ty,h4 N hN]
theorem zuy {w:World} {ops:Array Oper} {rest:List Oper} {o:Oper} {a:Act} {Q:Exit→Act→World→Prop} (hg:o.guard=none) (m x v:Operand) (hop:o.op=Op.mapUpdate 117 m x v)
 (U:Nat) (ix:List Nat) (h:UsedM w U ix) (i:Nat) (hi:i<9223372036854775808) (hl:ix.length<9223372036854775807) (hm:a.eval m=.map (some U)) (hx:a.eval x=.int .i64 (i:Int)) (hv:a.eval v=.bool true)
 (hK:∀w',UsedM w' U (ix++[i])→w.grownBy w' (some U)→wpList Tryz.prog ops Q rest (a.put o.dst undef) w'):wpList Tryz.prog ops Q (o :: rest) a w:=by
 refine wpList_plain hg fun K' hK'=>?_
 obtain⟨w',hrun,r1,r2⟩:=h.put hi hl;unfold Oper.wp;simp[execOp,hop,hm,hx,hv,hrun,Result.andThen];exact hK' _ _ (hK w' r1 r2)
end
section
open Go.RowKit
def zg1:Nat→Value:=fun _=>.slice none 0 0
def KV (w:World) (base:Nat) (K:Value) (vs:List Vec):Prop:=
 ∃Y,w.ownsRow base 85 2 K vs.length (zbb vs.length zg1 Y)∧∀i,i<vs.length→EnSl w 0 (Y i) (vg vs i)
theorem z5h (w:World) (base:Nat):KV w base (.slice none 0 0) []:=⟨zg1,World.ownsRow_nil _ _ _ _,fun i h=>by simp at h⟩
theorem KV.steady {w w':World} {base:Nat} {K:Value} {vs:List Vec} (h:KV w base K vs) (hs:Steady 0 zc6 w w'):KV w' base K vs:=by
 obtain⟨Y,h1,h2⟩:=h;exact⟨Y,zkq h1 hs (.inr (.inr rfl)),fun i hi=>(h2 i hi).steady hs (.inl rfl) (.inr (.inl rfl))⟩
theorem KV.grown {w w':World} {base g:Nat} {K:Value} {vs:List Vec} (h:KV w base K vs) (hN:NotT w g) (hg:w.grownBy w' (some g)):KV w' base K vs:=h.steady (ziu hN (Nat.zero_le _) hg)
theorem KV.later {w w':World} {base:Nat} {K:Value} {vs:List Vec} (h:KV w base K vs) (hb:Below w.heap.size w w'):KV w' base K vs:=h.steady (.of_below hb)
theorem KV.below {w w':World} {base n:Nat} {K:Value} {vs:List Vec} (h:KV w base K vs) (hn:n=w.heap.size) (hb:Below n w w'):KV w' base K vs:=h.later (hn ▸ hb)
theorem z5i {vs:List Vec} {v:Vec} {i:Nat} (h:i<vs.length):vg (vs++[v]) i=vg vs i:=by simp[vg,List.getElem?_append_left h]
theorem z5j (vs:List Vec) (v:Vec):vg (vs++[v]) vs.length=v:=by simp[vg]
theorem z5k {n:Nat} (X Y:Nat→Value) (y:Value):zbb n X (upd Y n y)=zbb n X Y:=by
 unfold zbb;congr 1;refine List.map_congr_left fun i hi=>?_
 rw[zdp _ _ (Nat.ne_of_lt (List.mem_range.1 hi))]
theorem KV.snoc {w:World} {base:Nat} {K:Value} {vs:List Vec} (hK:KV w base K vs) {y:Value} {v:Vec} (hv:EnSl w 0 y v) (A:Option Addr) (c:Nat) (hr:Rd w 2 A 1 [.slice none 0 0,y]) (hb:vs.length+1≤1000000000000) (hbase:base≤w.heap.size):
 ∃K' w',(Builtin.append_ #[25,25] 25 #[K,.slice A 1 c]).run Tryz.prog w=.ok K' w'∧KV w' base K' (vs++[v])∧w.grownBy w' K.ownBlock∧(∀k,K.ownBlock=some k→base≤k):=by
 obtain⟨Y,ho,hY⟩:=hK
 have hy1:y.oneCell'=true:=by
  obtain⟨a,n,d,rfl,-⟩:=hv
  rfl
 obtain⟨K',w',h1,h2,h3⟩:=zcp base _ _ _ _ 2 48 Tryz.underlying25 Tryz.info_frg rfl (by omega) K vs.length _ ho A 1 c _ hr (by
  intro u hu;simp only[List.mem_cons,List.not_mem_nil,or_false] at hu;rcases hu with rfl | rfl
  · rfl
  · exact hy1) (by unfold maxLen;omega) (by omega) hbase
 have hs:Steady 0 zbp w w':=(Steady.grown (base:=base) ho h3 (by rintro(h | h) <;> cases h)).lower (Nat.zero_le _);refine⟨K',w',h1,⟨upd Y vs.length y,?_,fun i hi=>?_⟩,h3,fun k hk=>(ho.lt k hk).1⟩
 · rw[List.length_append];show w'.ownsRow base 85 2 K' (vs.length+1) (zbb (vs.length+1) zg1 (upd Y vs.length y));rw[z4w,z5k,ze6];exact h2
 · by_cases e:i=vs.length
   · subst e;rw[ze6,z5j];exact hv.steady hs (.inl rfl) (.inr rfl)
   · have hi':i<vs.length:=by simp at hi;omega
     rw[zdp _ _ e,z5i hi'];exact(hY i hi').steady hs (.inl rfl) (.inr rfl)
theorem KV.at {w:World} {base:Nat} {K:Value} {vs:List Vec} (hK:KV w base K vs) {i:Nat} (hi:i<vs.length):∃g cap,K=.slice (some ⟨g,0,none⟩) vs.length cap∧base≤g∧g<w.heap.size∧∃y,w.cell? ⟨g,i*2+1,none⟩=some y∧w.cell? ⟨g,i*2,none⟩=some (.slice none 0 0)∧EnSl w 0 y (vg vs i):=by
 obtain⟨Y,ho,hY⟩:=hK;obtain⟨g,cap,rfl,hg,hgl,-,-⟩:=zb3 ho (by omega);obtain⟨e1,e2⟩:=zgy hi zg1 Y;have c1:=ho.cells (g:=g) rfl _ _ e1;have c2:=ho.cells (g:=g) rfl _ _ e2;rw[yp,Nat.zero_add] at c1 c2;exact⟨g,cap,rfl,hg,hgl,Y i,c2,c1,hY i hi⟩
def SegM (w:World) (base:Nat) (K:Value) (vs:List Vec) (l:List Iv) (ix:List Nat):Prop:=
 ∃w2 X Y,base≤w2.heap.size∧Steady 0 zbp w2 w∧(∀i,i<vs.length→EnSl w2 0 (Y i) (vg vs i))∧w.ownsRow base 85 2 K vs.length (zbb vs.length X Y)∧
  (∀i,i<vs.length→w.ownsRow w2.heap.size 99 2 (X i) (itN l ix i).length (ivC (itN l ix i)))∧∀i,i<vs.length→∀j,j<vs.length→i≠j→∀b,(X i).ownBlock=some b→(X j).ownBlock≠some b
theorem KV.seg {w:World} {base:Nat} {K:Value} {vs:List Vec} (h:KV w base K vs) (hb:base≤w.heap.size):SegM w base K vs [] []:=by
 obtain⟨Y,h1,h2⟩:=h;exact⟨w,zg1,Y,hb,⟨Nat.le_refl _,fun _ _ _=>rfl⟩,h2,h1,fun i hi=>World.ownsRow_nil _ _ _ _,fun i hi j hj _ b hb=>by simp[zg1,Value.ownBlock] at hb⟩
theorem SegM.steady {w w':World} {base:Nat} {K:Value} {vs:List Vec} {l:List Iv} {ix:List Nat} (h:SegM w base K vs l ix) (hs:Steady 0 zc6 w w'):SegM w' base K vs l ix:=by
 obtain⟨w2,X,Y,h1,h2,h3,h4,h5,h6⟩:=h;exact⟨w2,X,Y,h1,h2.trans (hs.weak fun T hT=>hT.imp id .inl),h3,zkq h4 hs (.inr (.inr rfl)),fun i hi=>zkq (h5 i hi) hs (.inl rfl),h6⟩
theorem SegM.grown {w w':World} {base g:Nat} {K:Value} {vs:List Vec} {l:List Iv} {ix:List Nat} (h:SegM w base K vs l ix) (hN:NotT w g) (hg:w.grownBy w' (some g)):SegM w' base K vs l ix:=h.steady (ziu hN (Nat.zero_le _) hg)
theorem SegM.later {w w':World} {base:Nat} {K:Value} {vs:List Vec} {l:List Iv} {ix:List Nat} (h:SegM w base K vs l ix) (hb:Below w.heap.size w w'):SegM w' base K vs l ix:=h.steady (.of_below hb)
theorem SegM.at {w:World} {base:Nat} {K:Value} {vs:List Vec} {l:List Iv} {ix:List Nat} (h:SegM w base K vs l ix) {i:Nat} (hi:i<vs.length):∃g cap,K=.slice (some ⟨g,0,none⟩) vs.length cap∧base≤g∧g<w.heap.size∧(∀j,w.frozen? ⟨g,j,none⟩=false)∧∃x,w.cell? ⟨g,i*2,none⟩=some x:=by
 obtain⟨w2,X,Y,h1,h2,h3,h4,h5,h6⟩:=h;obtain⟨g,cap,rfl,hg,hgl,-,-⟩:=zb3 h4 (by omega);have c1:=h4.cells (g:=g) rfl _ _ (zgy hi X Y).1;rw[yp,Nat.zero_add] at c1;exact⟨g,cap,rfl,hg,hgl,fun j=>h4.frozenAt j,X i,c1⟩
theorem SegM.put {w:World} {base g cap:Nat} {vs:List Vec} {l:List Iv} {ix:List Nat} (h:SegM w base (.slice (some ⟨g,0,none⟩) vs.length cap) vs l ix) (hli:ix.length=l.length) {i:Nat} (hi:i<vs.length) {S:Value} (hS:w.cell? ⟨g,i*2,none⟩=some S) (s:Iv)
 (W:World) (hW:Below w.heap.size w W) (A:Option Addr) (c:Nat) (hr:Rd W 2 A 1 (ivC [s])) (hb:l.length+1≤1000000000000):
 ∃S' w',(Builtin.append_ #[81,81] 81 #[S,.slice A 1 c]).run Tryz.prog W=.ok S' w'∧(∃gS m cS,S'=.slice (some ⟨gS,0,none⟩) m cS)∧W.grownBy w' S.ownBlock∧(∀k,S.ownBlock=some k→base≤k∧∃C fr,W.heap[k]?=some (.cells C 99 fr))∧w'.cell? ⟨g,i*2,none⟩=some S∧w'.frozen? ⟨g,i*2,none⟩=false∧
  ∀w2,w'.grownBy w2 none→SegM (w2.setCell ⟨g,i*2,none⟩ S') base (.slice (some ⟨g,0,none⟩) vs.length cap) vs (l++[s]) (ix++[i]):=by
 obtain⟨wz,X,Y,h1,h2,h3,h4,h5,h6⟩:=h
 have e0:X i=S:=by
  have c1:=h4.cells (g:=g) rfl _ _ (zgy hi X Y).1;rw[yp,Nat.zero_add,hS] at c1;injection c1 with c1;exact c1.symm
 subst e0;have k4:=zm h4 hW;have k5:=fun j hj=>zm (h5 j hj) hW
 have hz:wz.heap.size≤W.heap.size:=Nat.le_trans h2.size hW.size;have hit:(itN l ix i).length≤l.length:=zta _ _ _ _;obtain⟨S',w',hrun,ho,hg,hat⟩:=zul wz.heap.size (X i) _ _ (k5 i hi) A c s hr (by omega) hz
 have hty:∀k,(X i).ownBlock=some k→∃C fr,W.heap[k]?=some (.cells C 99 fr):=fun k hk=>by
  rcases(k5 i hi).2 with ⟨e,_⟩ | ⟨b,cap',cur,e,_,hh,_⟩
  · rw[e] at hk;cases hk
  · have e':b=k:=by rw[e] at hk;simpa [Value.ownBlock] using hk
    subst e';exact⟨_,_,hh⟩
 have hne:(X i).ownBlock≠some g:=fun e=>zgz k4 (k5 i hi) (by decide) g rfl e
 have e4:w'.ownsRow base 85 2 (.slice (some ⟨g,0,none⟩) vs.length cap) vs.length (zbb vs.length X Y):=zaz k4 fun k hk=>by
  have e:g=k:=by simpa [Value.ownBlock] using hk
  subst e;exact hg.block g (k4.lt g rfl).2 fun e=>hne e.symm
 have hcell:w'.cell? ⟨g,i*2,none⟩=some (X i):=by
  have c1:=e4.cells (g:=g) rfl _ _ (zgy hi X Y).1;rwa [yp,Nat.zero_add] at c1
 obtain⟨gS,cS,eS,-⟩:=zb3 ho (Nat.succ_pos _);refine⟨S',w',hrun,⟨gS,_,cS,eS⟩,hg,fun k hk=>⟨Nat.le_trans h1 ((k5 i hi).lt k hk).1,hty k hk⟩,hcell,e4.frozenAt _,fun w2 hw2=>?_⟩;have f4:=zaz (w':=w2) e4 fun k hk=>hw2.block k (e4.lt k hk).2 (by simp)
 have fS:=zaz (w':=w2) ho fun k hk=>hw2.block k (ho.lt k hk).2 (by simp)
 obtain⟨p1,p2⟩:=f4.stored (i*2) S'
 have hrow:∃C fr,w2.heap[g]?=some (.cells C 85 fr):=by
  rcases f4.2 with ⟨h',_⟩ | ⟨g',cap',cur,h',_,hh,_⟩
  · cases h'
  · cases h';exact⟨_,_,hh⟩
 obtain⟨C,fr,hrow⟩:=hrow;have hset:∀k,k≠g→k<w2.heap.size→(w2.setCell ⟨g,i*2,none⟩ S').heap[k]?=w2.heap[k]?:=fun k hk hl=>p2.block k hl fun e=>hk (by injection e)
 have hst:Steady 0 zbp w2 (w2.setCell ⟨g,i*2,none⟩ S'):=.setCell hrow (Nat.zero_le _) (by rintro(h | h) <;> cases h)
 have hsWw:Steady 0 zbp wz w':=⟨Nat.le_trans hz hg.size,fun k hk hp=>by
  have hkW:k<W.heap.size:=Nat.lt_of_lt_of_le hk hz;have hkw:=Nat.lt_of_lt_of_le hk h2.size;rw[hg.block k hkW fun e=>by have:=((k5 i hi).lt k e.symm).1;omega,hW.block k hkw];exact h2.row k hk hp⟩
 refine⟨wz,upd X i S',Y,h1,(hsWw.trans (⟨hw2.size,fun k hk _=>hw2.block k hk (by simp)⟩:Steady 0 zbp w' w2)).trans hst,h3,?_,fun j hj=>?_,fun a ha b hb hab x hx=>?_⟩
 · rw[←zun hi];exact p1
 · by_cases e:j=i
   · subst e;rw[ze6,ztm hli,if_pos rfl,List.length_append]
     exact zaz fS fun k hk=>hset k (fun e=>by
      subst e;exact zgz f4 fS (by decide) k rfl hk) (fS.lt k hk).2
   · rw[zdp _ _ e,ztm hli,if_neg (fun h=>e h.symm),List.append_nil];refine zaz (h5 j hj) fun k hk=>?_
     have hl5:=(h5 j hj).lt k hk;have hkW:k<W.heap.size:=Nat.lt_of_lt_of_le hl5.2 hW.size;rw[hset k (fun e'=>by subst e';exact zgz h4 (h5 j hj) (by decide) k rfl hk) (Nat.lt_of_lt_of_le hkW (Nat.le_trans hg.size hw2.size)),hw2.block k (Nat.lt_of_lt_of_le hkW hg.size) (by simp),hg.block k hkW (fun e'=>h6 j hj i hi e k hk e'.symm),hW.block k hl5.2]
 · by_cases ea:a=i
   · subst ea;rw[ze6] at hx;rw[zdp _ _ (fun e=>hab e.symm)];intro hy;rcases hat x hx with h' | h'
     · exact h6 a ha b hb hab x h' hy
     · have:=((h5 b hb).lt x hy).2;have:=hW.size;omega
   · rw[zdp _ _ ea] at hx;by_cases eb:b=i
     · subst eb;rw[ze6];intro hy;rcases hat x hy with h' | h'
       · exact h6 a ha b hb hab x hx h'
       · have:=((h5 a ha).lt x hx).2;have:=hW.size;omega
     · rw[zdp _ _ eb];exact h6 a ha b hb hab x hx
theorem SegM.frags {w:World} {base:Nat} {K:Value} {vs:List Vec} {l:List Iv} {ix:List Nat} (h:SegM w base K vs l ix) (hl:zq l):∃a c,K=.slice a vs.length c∧Frags w a vs.length c (vo vs l ix):=by
 obtain⟨wz,X,Y,h1,h2,h3,h4,h5,h6⟩:=h;have hlen:(vo vs l ix).length=vs.length:=by rw[zik];simp
 have hnth:∀i,i<vs.length→za (vo vs l ix) i=(itN l ix i,vg vs i):=fun i hi=>by
  rw[ym (by rw[hlen];exact hi)];simp[zik]
 rcases Nat.eq_zero_or_pos vs.length with h0 | h0
 · obtain⟨a,c,rfl⟩:=ks h4;rcases h4.2 with ⟨h',-⟩ | ⟨g,cap,cur,h',hg,hh,hnc,hcm,_⟩
   · injection h' with e1 _ e3;subst e1 e3;refine⟨none,0,rfl,?_⟩;rw[h0] at hlen ⊢;rw[List.length_eq_zero_iff.1 hlen];exact zkn w
   · injection h' with e1 _ e3;subst e1 e3;exact⟨_,_,rfl,hlen,hnc,by unfold maxLen at hcm;omega,(by intro e;cases e),fun hn=>by omega⟩
 · obtain⟨g,cap,rfl,hg,hgl,hnc,hcm⟩:=zb3 h4 h0;refine⟨_,_,rfl,hlen,hnc,by unfold maxLen at hcm;omega,(by intro e;cases e),fun _=>⟨g,0,rfl,fun i hi=>?_⟩⟩;obtain⟨e1,e2⟩:=zgy hi X Y;have c1:=h4.cells (g:=g) rfl _ _ e1;have c2:=h4.cells (g:=g) rfl _ _ e2;rw[yp] at c1 c2;rw[hnth i hi];obtain⟨a,c,e,hI⟩:=zah (h5 i hi) (fun t ht=>hl t (ztb (Nat.le_refl _) ht));obtain⟨a',m',c',e',hE⟩:=(h3 i hi).steady h2 (.inl rfl) (.inr rfl);rw[e] at c1;rw[e'] at c2;exact⟨⟨a,_,c,c1,hI⟩,⟨a',m',c',by rw[Nat.add_assoc];exact c2,hE.ents⟩⟩
theorem SegM.len {w:World} {base:Nat} {K:Value} {vs:List Vec} {l:List Iv} {ix:List Nat} (h:SegM w base K vs l ix):∃a c,K=.slice a vs.length c:=by
 obtain⟨wz,X,Y,h1,h2,h3,h4,h5,h6⟩:=h;exact ks h4
theorem KV.len {w:World} {base:Nat} {K:Value} {vs:List Vec} (h:KV w base K vs):∃a c,K=.slice a vs.length c:=by
 obtain⟨Y,h4,-⟩:=h;exact ks h4
theorem OwnV.enSl {w:World} {base:Nat} {V:Value} {v:Vec} (h:OwnV w base V v) (hl:LtV v):EnSl w 0 V v:=by
 obtain⟨a,c,rfl,hE⟩:=h.entsT (base':=0) hl;exact⟨a,_,c,rfl,hE⟩
end
section
open Go.RowKit
attribute [local go_sem] vq
def lmV (L:zt):Value:=.agg #[.int .i64 L.1,.int .i64 L.2.1,.int .i64 L.2.2.1,.int .i64 L.2.2.2.1,.int .i64 L.2.2.2.2]
def pkF (g:Nat):Nat→Value
 | 0=>.func (.func 190) #[.pointer (some ⟨g,0,none⟩)] #[]
 | 1=>.func (.func 234) #[.pointer (some ⟨g,0,none⟩)] #[]
 | 2=>.func (.func 261) #[.pointer (some ⟨g,0,none⟩)] #[]
 | 3=>.func (.func 271) #[.pointer (some ⟨g,0,none⟩)] #[]
 | 4=>.func (.func 295) #[.pointer (some ⟨g,0,none⟩)] #[]
 | 5=>.func (.func 299) #[.pointer (some ⟨g,0,none⟩)] #[]
 | _=>.nilFunc
def pkC (L:zt) (nx V:Value) (e h:Nat) (cu:Value):List Value:=
 [.int .i64 L.1,.int .i64 L.2.1,.int .i64 L.2.2.1,.int .i64 L.2.2.2.1,.int .i64 L.2.2.2.2,nx,.nilIface,V,.int .u64 (e:Int),.int .u64 (h:Int),cu]
def CuAt (w:World) (base:Nat) (cu:Value) (lo:Option Nat) (h:List Iv):Prop:=∃c x,cu=.pointer (some ⟨c,0,none⟩)∧base≤c∧(∀y,lo=some y→x=y)∧Row w c 183 (jw c 1 x h.getLast? lo.isSome)
theorem CuAt.grown {w w':World} {base g:Nat} {cu:Value} {lo:Option Nat} {h:List Iv} {T:TypeId} {C:List Value} (hc:CuAt w base cu lo h) (hR:Row w g T C) (hT:T≠183) (hg:w.grownBy w' (some g)):CuAt w' base cu lo h:=by
 obtain⟨c,x,h1,h2,h3,h4⟩:=hc;exact⟨c,x,h1,h2,h3,h4.grown hg fun e=>by injection e with e;exact hR.ne h4 hT e.symm⟩
theorem CuAt.later {w w':World} {base:Nat} {cu:Value} {lo:Option Nat} {h:List Iv} (hc:CuAt w base cu lo h) (hb:Below w.heap.size w w'):CuAt w' base cu lo h:=by
 obtain⟨c,x,h1,h2,h3,h4⟩:=hc;exact⟨c,x,h1,h2,h3,h4.later hb⟩
def PkB (w:World) (base:Nat) (s:PS) (V cu:Value):Prop:=
 match s.tag with
 | 0=>V=.slice none 0 0
 | 1=>OwnV w base V s.v
 | 2=>EntO w base V s.v s.rep 0 []
 | 3=>EntO w base V s.v s.rep s.mx []
 | 4=>EntO w base V s.v s.rep s.mx s.h∧CuAt w base cu none s.h
 | 5=>EntO w base V s.v s.rep s.mx s.h∧CuAt w base cu (some s.lo) s.h
 | _=>OwnV w base V s.v
theorem PkB.later {w w':World} {base:Nat} {s:PS} {V cu:Value} (h:PkB w base s V cu) (hb:Below w.heap.size w w'):PkB w' base s V cu:=by
 unfold PkB at h ⊢;split at h
 · exact h
 · exact h.below hb
 · exact h.later hb
 · exact h.later hb
 · exact⟨h.1.later hb,h.2.later hb⟩
 · exact⟨h.1.later hb,h.2.later hb⟩
 · exact h.below hb
theorem PkB.grown {w w':World} {base g:Nat} {s:PS} {V cu:Value} {C:List Value} (h:PkB w base s V cu) (hR:Row w g 280 C) (hg:w.grownBy w' (some g)):PkB w' base s V cu:=by
 have hN:NotT w g:=hR.notT (by rintro(h | h | h) <;> cases h);unfold PkB at h ⊢;split at h
 · exact h
 · exact h.grown hN hg
 · exact h.grown hN hg
 · exact h.grown hN hg
 · exact⟨h.1.grown hN hg,h.2.grown hR (by decide) hg⟩
 · exact⟨h.1.grown hN hg,h.2.grown hR (by decide) hg⟩
 · exact h.grown hN hg
def PkR (w:World) (base g:Nat) (L:zt) (nx:Value) (s:PS):Prop:=base≤g∧∃V cu,Row w g 280 (pkC L nx V s.ents s.hls cu)∧PkB w base s V cu
theorem PkR.later {w w':World} {base g:Nat} {L:zt} {nx:Value} {s:PS} (h:PkR w base g L nx s) (hb:Below w.heap.size w w'):PkR w' base g L nx s:=by
 obtain⟨h1,V,cu,h2,h3⟩:=h;exact⟨h1,V,cu,h2.later hb,h3.later hb⟩
def PkS (w:World) (base g:Nat) (L:zt) (r:Except Nat PS) (e:Ending) (w':World):Prop:=
 Below base w w'∧match r with
 | .error c=>e=.returned (.tuple #[.nilFunc,.iface 34 (.int .i64 (c:Int))])∧∃C,Row w' g 280 C∧C.length=11
 | .ok s'=>∃nx,e=.returned (.tuple #[pkF g s'.tag,.nilIface])∧PkR w' base g L nx s'
def zg2 (c:Nat):Value:=if c=0 then .nilIface else .iface 34 (.int .i64 (c:Int))
def I64 (l:Int):Prop:= -9223372036854775808≤l∧l≤9223372036854775807
structure LimsI (L:zt):Prop where
 a:I64 L.1
 b:I64 L.2.1
 c:I64 L.2.2.1
 d:I64 L.2.2.2.1
 e:I64 L.2.2.2.2
theorem zuz (x:Nat) (lim:Int) (rest:Nat):(max lim 0<(x:Int)∧yz x lim rest=7)∨(¬max lim 0<(x:Int)∧rest<x∧yz x lim rest=5)∨(¬max lim 0<(x:Int)∧¬rest<x∧yz x lim rest=0):=by
 unfold yz;by_cases h1:max lim 0<(x:Int)
 · left;refine⟨h1,if_pos ?_⟩;omega
 · by_cases h2:rest<x
   · right;left;refine⟨h1,h2,?_⟩;rw[if_neg (by omega),if_pos h2]
   · right;right;refine⟨h1,h2,?_⟩;rw[if_neg (by omega),if_neg h2]
theorem zu0 (x:Nat) (lim:Int) (rest:Nat) (w:World) (hx:x<18446744073709551616) (hl:I64 lim) (hr:rest<9223372036854775808):
 Calls Tryz.prog 233 #[.int .u64 (x:Int),.int .i64 lim,.int .i64 (rest:Int)] w fun e w'=>e=.returned (zg2 (yz x lim rest))∧w=w':=by
 have hc:=zuz x lim rest;obtain⟨l1,l2⟩:=hl;generalize yz x lim rest=c at*;have Hx:=hid hx;clear hx;by_cases hneg:lim<0
 · have e0:max lim 0=0:=by omega
   rw[e0] at hc;clear e0;rcases hc with ⟨h1,rfl⟩ | ⟨h1,h2,rfl⟩ | ⟨h1,h2,rfl⟩
   · have h1':0<x:=by omega
     clear h1;go_enter Tryz.func233,Tryz.ntmps233;go_wp2_with fail;go_ret;exact⟨rfl,rfl⟩
   · have h1':x=0:=by omega
     omega
   · obtain rfl:x=0:=by omega
     go_enter Tryz.func233,Tryz.ntmps233;go_wp2_with fail;go_ret;exact⟨rfl,rfl⟩
 · obtain⟨m,rfl⟩:=Int.eq_ofNat_of_zero_le (show 0≤lim by omega);have e0:max (m:Int) 0=(m:Int):=by omega
   rw[e0] at hc;clear e0;rcases hc with ⟨h1,rfl⟩ | ⟨h1,h2,rfl⟩ | ⟨h1,h2,rfl⟩
   · have h1':m<x:=by omega
     clear h1;go_enter Tryz.func233,Tryz.ntmps233;go_wp2_with fail;go_ret;exact⟨rfl,rfl⟩
   · have h1':¬m<x:=by omega
     clear h1;go_enter Tryz.func233,Tryz.ntmps233;go_wp2_with fail;go_ret;exact⟨rfl,rfl⟩
   · have h1':¬m<x:=by omega
     clear h1;go_enter Tryz.func233,Tryz.ntmps233;go_wp2_with fail;go_ret;exact⟨rfl,rfl⟩
end
section
open Go.RowKit
def OwnB (w:World) (base:Nat) (v:Value) (l:List Nat):Prop:=w.ownsRow base 5 1 v (zo l).length (u8s (zo l))
theorem OwnB.below {w w':World} {base:Nat} {v:Value} {l:List Nat} (h:OwnB w base v l) (hb:Below w.heap.size w w'):OwnB w' base v l:=zm h hb
theorem zu1 (w:World) (base:Nat):OwnB w base (.slice none 0 0) []:=World.ownsRow_nil _ _ _ _
theorem zu2 (base:Nat) (v:Value) (n:Nat) (xs:List Nat) (A:Option Addr) (c x y:Nat) (w:World) (hown:w.ownsRow base 52 1 v n (zi xs)) (hr:Rd w 1 A 2 (zi [x,y])) (hb:n+2≤1000000) (hbase:base≤w.heap.size):
 Calls Tryz.prog 125 #[v,.slice A 2 c] w fun e w'=>(∃v',e=.returned v'∧w'.ownsRow base 52 1 v' (n+2) (zi (xs++[x,y])))∧Below base w w':=by
 obtain⟨v',w',hrun,h1,h2⟩:=zeo base v n xs hown A 2 c [x,y] hr hb hbase;have Hrun:=hid hrun;have H1:=hid h1;have Hb:=hid (Below.grown (B:=base) (Below.refl _ _) h2 hbase (fun k hk=>(hown.lt k hk).1));clear hrun h1 h2 hown hr;go_enter Tryz.func125,Tryz.ntmps125;go_wp2_with (at_builtin;refine jf _ _ 50 rfl rfl _ _ rfl rfl _ _ Hrun.out ?_);go_ret;exact⟨⟨_,rfl,H1.out⟩,Hb.out⟩
set_option maxRecDepth 20000 in
theorem zop (a:Option Addr) (n c ap:Nat) (l:List Iv) (w:World) (hI:Ivs w a n c l) (hD:zb4 l ap) (hn:n≤100000) (hap:ap≤1):
 Calls Tryz.prog 71 #[.slice a n c,.int .u64 ap] w fun e w'=>(∃v,e=.returned (.tuple #[v,.bool true])∧w'.ownsRow w.heap.size 52 1 v (2*n) (zi (kf l ap)))∧Below w.heap.size w w':=by
 have HI:=hid hI;have Hl:=hid hI.len;have HD:=hid hD;have Hlt:=hid hI.lt;have Hall:=hid (show kf l ap=vk l ap n from by rw[←hI.len];rfl);clear hI hD;go_enter Tryz.func71,Tryz.ntmps71;go_wp2;go_loopw [6,7,8,9,10,11,14] (fun v _ _ _ _ _ i wr=>∃d:Nat,d≤n∧i=.int .i64 d∧Below w.heap.size w wr∧Hid (wr.ownsRow w.heap.size 52 1 v (2*d) (zi (vk l ap d)))) (fun _ _ _ _ _ _ i _=>n - (intOf i).toNat)
 case atStart=>exact⟨0,by omega,rfl,Below.refl _ _,World.ownsRow_nil _ _ _ _⟩
 case round=>
  obtain⟨d,hd,rfl,hb,ho⟩:=hrel;have Hb:=hid hb;clear hb;by_cases hdn:d<n
  · obtain⟨bl,ol,rfl⟩:=HI.out.some (by omega);have Hc:=hid (fun w' (h:Below wr.heap.size wr w')=>HI.out.at hdn w' (Hb.out.trans (h.mono Hb.out.size)));have Hc':=hid (fun (h1:d - 1<n) w' (h:Below wr.heap.size wr w')=>HI.out.at h1 w' (Hb.out.trans (h.mono Hb.out.size)));obtain⟨g1,g2⟩:=HD.out d (by rw[Hl.out];exact hdn);have l1:=(Hlt.out _ (zaa (l:=l) (k:=d) (by rw[Hl.out];exact hdn)));have Hst:=hid (show vk l ap (d+1)=vk l ap d++[jd l ap d,(zb l d).2 - (zb l d).1] from rfl);have Hg:=hid (show jd l ap d=if d=0 then (zb l 0).1 else (zb l d).1 - (zb l (d - 1)).2 - 1 - ap from rfl);have hg0:d=0→zb l 0=zb l d:=fun h=>by rw[h]
    obtain⟨q1,q2⟩:=Hc.out _ (Below.refl _ _);have h0:(0:Int)≤d:=by omega
    have h04:(d:Int)<(n:Int):=by omega
    generalize jd l ap d=gp at*;generalize zb l 0=s0 at*;generalize zb l d=s at*;generalize zb l (d - 1)=p at*;obtain⟨sx,sy⟩:=s;obtain⟨px,py⟩:=p;simp only at q1 q2 Hc Hc' Hst Hg g1 g2 l1;have hd1:decide ((sy:Int)<(sx:Int))=false:=by rw[decide_eq_false_iff_not];omega
    have hd2:decide (sy<sx)=false:=by rw[decide_eq_false_iff_not];omega
    have hsz:IntKind.u64.wrap ((sy:Int) - (sx:Int))=((sy - sx:Nat):Int):=by rw[IntKind.wrap_u64];omega
    have hal:Below wr.heap.size wr (wr.alloc (.cells #[.int .u64 sx,.int .u64 sy] 99)):=(Below.refl _ _).alloc (Nat.le_refl _) _;have HX:=hid (zis wr (.int .u64 sx) (.int .u64 sy) 99);have Hal:=hid hal;generalize hsz2:sy - sx=sz at*;by_cases hd0:d=0
    · have hgp:gp=sx:=by rw[Hg.out,if_pos hd0,hg0 hd0]
      have hq1:decide (0<(d:Int))=false:=by rw[decide_eq_false_iff_not];omega
      have hq2:¬0<d:=by omega
      have Ho2:=hid (zm ho.out (show Below wr.heap.size wr ((wr.alloc (.cells #[.int .u64 sx,.int .u64 sy] 99)).alloc (.cells #[.int .u64 sx,.int .u64 sz] 52)) from Hal.out.alloc Hal.out.size _));have Hb2:=hid (Hb.out.trans ((show Below wr.heap.size wr ((wr.alloc (.cells #[.int .u64 sx,.int .u64 sy] 99)).alloc (.cells #[.int .u64 sx,.int .u64 sz] 52)) from Hal.out.alloc Hal.out.size _).mono Hb.out.size));rw[hgp] at Hst;clear hal hgp hg0 hsz2 Hg g1 g2 l1 Hc' Hc hd0;go_wp2_with fail;refine(zu2 w.heap.size _ (2*d) (vk l ap d) (some ⟨wr.heap.size+1,0,none⟩) 2 sx sz _ Ho2.out (yg (zg _ _ _ (by simp)) rfl rfl) (by omega) Hb2.out.size).mono ?_;rintro e w4 ⟨⟨v',rfl,ho4⟩,hb4⟩;have Ho4:=hid ho4;have Hb4:=hid (Hb2.out.trans hb4);clear ho4 hb4;go_wp2;go_roundw
      case rel=>exact⟨d+1,by omega,by go_num,Hb4.out,by rw[Hst.out];exact Ho4.out⟩
      case measure=>simp[intOf];omega
    · have g2:=g2 (by omega);have hgp:gp=sx - py - 1 - ap:=by rw[Hg.out,if_neg hd0]
      have hq1:decide (0<(d:Int))=true:=by rw[decide_eq_true_iff];omega
      have hq2:0<d:=by omega
      have hsub:IntKind.i64.wrap ((d:Int) - 1)=((d - 1:Nat):Int):=by rw[IntKind.wrap_i64];omega
      have h01:(0:Int)≤((d - 1:Nat):Int):=by omega
      have h03:((d - 1:Nat):Int)<(n:Int):=by omega
      have Hc1:=hid (Hc'.out (by omega));have hBt:=hid (fun w=>zgh py sx w (by omega) l1.1);have hlt1:decide (((sx - py - 1:Nat):Int)<(ap:Int))=false:=by rw[decide_eq_false_iff_not];omega
      have hlt2:decide (sx - py - 1<ap)=false:=by rw[decide_eq_false_iff_not];omega
      have hsub2:IntKind.u64.wrap (((sx - py - 1:Nat):Int) - (ap:Int))=(gp:Int):=by rw[IntKind.wrap_u64,hgp];omega
      have HXc:=hid (fun w' (h:Below (wr.alloc (.cells #[.int .u64 sx,.int .u64 sy] 99)).heap.size (wr.alloc (.cells #[.int .u64 sx,.int .u64 sy] 99)) w')=>And.intro (Hc1.out w' (Hal.out.trans (h.mono Hal.out.size))) (HX.out w' h));clear hal hgp hg0 hsz2 Hg g1 g2 l1 Hc' Hc Hc1 hd0;generalize sx - py - 1=bt at*;generalize d - 1=d1 at*;have Hb1:=hid (Hb.out.trans (Hal.out.mono Hb.out.size));have Ho1:=hid (zm ho.out Hal.out);clear ho HX Hal;generalize hW:wr.alloc (.cells #[.int .u64 sx,.int .u64 sy] 99)=W at*;obtain⟨-,x1,x2⟩:=HXc.out _ (Below.refl _ _);go_wp2_with fail;refine qi (by kernel_rfl) (by kernel_rfl) ?_
      repeat (go_big_quiet_step ((intro hw;first
       | rfl
       | (obtain⟨⟨y1,y2⟩,y3,y4⟩:=HXc.out _ hw
          first
          | (go_at_call 120;refine(hBt.out _).mono ?_;rintro e w4 ⟨rfl,rfl⟩;exact⟨rfl,hw⟩)
          | (go_simp
             first | rfl | exact⟨rfl,hw⟩ | (trace_state;fail))))))
      refine wpQuiet_nil ?_;intro w3 hb3;obtain⟨-,x3,x4⟩:=HXc.out _ hb3;have hal3:Below w3.heap.size w3 (w3.alloc (.cells #[.int .u64 gp,.int .u64 sz] 52)):=(Below.refl _ _).alloc (Nat.le_refl _) _;have hb3w:=Hb1.out.trans (hb3.mono Hb1.out.size);have Hb3:=hid (hb3w.trans (hal3.mono hb3w.size));have Ho3:=hid (zm (zm Ho1.out hb3) hal3);clear hb3 hal3 hb3w x1 x2 HXc Ho1 Hb1;go_wp2_with fail;refine(zu2 w.heap.size _ (2*d) (vk l ap d) (some ⟨w3.heap.size,0,none⟩) 2 gp sz _ Ho3.out (yg (zg _ _ _ rfl) rfl rfl) (by omega) Hb3.out.size).mono ?_;rintro e w4 ⟨⟨v',rfl,ho4⟩,hb4⟩;have Ho4:=hid ho4;have Hb4:=hid (Hb3.out.trans hb4);clear ho4 hb4;go_wp2;go_roundw
      case rel=>exact⟨d+1,by omega,by go_num,Hb4.out,by rw[Hst.out];exact Ho4.out⟩
      case measure=>simp[intOf];omega
  · obtain rfl:d=n:=by omega
    have Ho:=hid ho.out;rw[←Hall.out] at Ho;go_wp2;go_ret2;exact⟨⟨_,rfl,Ho.out⟩,Hb.out⟩
def HoldR (B p:Nat) (C:Obj) (wA w':World):Prop:=Below B wA w'∧w'.heap[p]?=some C
theorem HoldR.refl {B p:Nat} {C:Obj} {wA:World} (h:wA.heap[p]?=some C):HoldR B p C wA wA:=⟨Below.refl _ _,h⟩
theorem HoldR.le {B p:Nat} {C:Obj} {wA w':World} (h:HoldR B p C wA w'):wA.heap.size≤w'.heap.size:=h.1.size
theorem HoldR.drew {B p:Nat} {C:Obj} {wA w':World} (h:HoldR B p C wA w'):HoldR B p C wA w'.drew:=⟨h.1.drew,h.2⟩
theorem HoldR.alloc {B p:Nat} {C:Obj} {wA w':World} (h:HoldR B p C wA w') (hB:B≤wA.heap.size) (o:Obj):HoldR B p C wA (w'.alloc o):=⟨h.1.alloc (Nat.le_trans hB h.1.size) o,qk h.2⟩
theorem HoldR.below {B p:Nat} {C:Obj} {wA w' w'':World} (h:HoldR B p C wA w') (hB:B≤wA.heap.size) (hb:Below w'.heap.size w' w''):HoldR B p C wA w'':=
 ⟨h.1.trans (hb.mono (Nat.le_trans hB h.1.size)),(hb.block p (Array.getElem?_eq_some_iff.1 h.2).1).trans h.2⟩
theorem HoldR.grown {B p:Nat} {C:Obj} {wA w' w'':World} {row:Option Nat} (h:HoldR B p C wA w') (hB:B≤wA.heap.size) (hg:w'.grownBy w'' row) (hr:∀j,row=some j→B≤j∧j<p):HoldR B p C wA w'':=
 ⟨h.1.grown hg (Nat.le_trans hB h.1.size) (fun j hj=>(hr j hj).1),(hg.block p (Array.getElem?_eq_some_iff.1 h.2).1 (fun e=>by have:=(hr p e.symm).2;omega)).trans h.2⟩
set_option maxRecDepth 20000 in
theorem z5l (a:Option Addr) (n cap:Nat) (k:Kno) (w:World) (hE:Frags w a n cap k) (hJ:Joins k) (hS:(zx k).length≤10000):
 Calls Tryz.prog 119 #[.slice a n cap] w fun x w'=>(∃y,x=.returned y∧OwnK w' w.heap.size 0 y (qt k))∧Below w.heap.size w w':=by
 have HE:=hid hE;have HJ:=hid hJ;have hC:=hid (z4c a n cap k w hE hJ.lt hJ.fits hJ.good hS);have Hall:=hid (zss k)
 have HLn:=hid (show (jz k).length≤10000 from by
  have h1:=zif k (zx k).length;rw[zie] at h1;omega)
 have hPl:zq (jz k):=fun s hs=>by
  have:=zh1 hJ.lt hs;exact⟨by omega,this.2.1⟩
 have HPl:=hid hPl;clear hE hJ hS hPl;go_enter Tryz.func119,Tryz.ntmps119;go_wp2_with fail;refine hC.out.mono ?_;rintro e w1 ⟨⟨v,rfl,ho⟩,hb1⟩;have Hb1:=hid hb1;obtain⟨aU,cU,rfl,hU⟩:=zah ho HPl.out;have HU:=hid hU;clear hb1 ho hU hC;obtain⟨N,hN⟩:∃N,N=(jz k).length:=⟨_,rfl⟩;have HN:=hid hN;rw[←hN] at HU HLn Hall ⊢;clear hN;have hN2:N≤10000:=HLn.out;go_wp2;go_loopw [3,5,9] (fun y _ i wr=>∃d:Nat,d≤N∧i=.int .i64 d∧Below w1.heap.size w1 wr∧Hid (OwnK wr w1.heap.size 0 y (zc9 k d))) (fun _ _ i _=>N - (intOf i).toNat)
 case atStart=>exact⟨0,by omega,rfl,Below.refl _ _,zkp _ _ _⟩
 case round=>
  obtain⟨d,hd,rfl,hb,ho⟩:=hrel;have Hb:=hid hb;clear hb;have Hbw:=hid (Hb1.out.trans (Hb.out.mono Hb1.out.size));by_cases hdN:d<N
  · have hcl:=HU.out.room;have HUr:=HU.out.below Hb.out;obtain⟨bS,oS,rfl,hcS⟩:=HUr.cells (by omega);obtain⟨q1,q2⟩:=hcS d hdN;have Hst:=hid (zsr (k:=k) (d:=d) (by rw[←HN.out];exact hdN));have Hpl:=hid (zst k d);rw[←HN.out] at Hpl;have Hs:=hid (HPl.out _ (zaa (show d<(jz k).length by rw[←HN.out];exact hdN)));generalize zc9 k d=R0 at*;generalize zb (jz k) d=s at*;obtain⟨sx,sy⟩:=s;simp only at q1 q2 Hst Hs;have hz0:w.heap.size≤w1.heap.size:=Hb1.out.size;have hz1:w1.heap.size≤wr.heap.size:=Hb.out.size;have Hlv:=hid (zc1 HJ.out.lt sx).2.1;have hrA:(wr.alloc (.cells #[.int .u64 sx,.int .u64 sy] 99)).heap[wr.heap.size]?=some (.cells #[.int .u64 sx,.int .u64 sy] 99):=z7 rfl;have hal:Below wr.heap.size wr (wr.alloc (.cells #[.int .u64 sx,.int .u64 sy] 99)):=(Below.refl _ _).alloc (Nat.le_refl _) _;have hoA:=ho.out.below hal;have HlA:=hid (ho.out.lt);have HbA:=hid (Hb.out.trans (hal.mono hz1));have hsA:(wr.alloc (.cells #[.int .u64 sx,.int .u64 sy] 99)).heap.size=wr.heap.size+1:=by simp
    have h0:(0:Int)≤d:=by omega
    have h04:(d:Int)<(N:Int):=by omega
    clear hcS HUr hal;go_wp2_with fail;clear q1 q2;obtain⟨p,hp⟩:∃p,p=wr.heap.size:=⟨_,rfl⟩;rw[←hp] at hrA hsA HlA ⊢;generalize wr.alloc (.cells #[.int .u64 sx,.int .u64 sy] 99)=wA at*;have Hp:=hid hp;have hpz:w1.heap.size≤p:=by omega
    have hzA:w1.heap.size≤wA.heap.size:=by omega
    have HoA:=hid hoA;have HrA:=hid hrA;have HsA:=hid hsA;clear hp hoA hz1;have r1:∀w',HoldR w1.heap.size p (.cells #[.int .u64 sx,.int .u64 sy] 99) wA w'→w'.cell? ⟨p,0,none⟩=some (.int .u64 sx):=fun w' h=>zu h.2 rfl
    have r2:∀w',HoldR w1.heap.size p (.cells #[.int .u64 sx,.int .u64 sy] 99) wA w'→w'.cell? ⟨p,1,none⟩=some (.int .u64 sy):=fun w' h=>zu h.2 rfl
    have hAt:=hid (fun w' (h:HoldR w1.heap.size p (.cells #[.int .u64 sx,.int .u64 sy] 99) wA w')=>z44 a n cap sx k w' (HE.out.below (Hb1.out.trans ((HbA.out.trans h.1).mono hz0))) HJ.out);generalize atK k sx=V at*;have hR0:HoldR w1.heap.size p (.cells #[.int .u64 sx,.int .u64 sy] 99) wA wA:=HoldR.refl hrA;clear hrA hsA
    go_region_held3 (fun w'=>HoldR w1.heap.size p (.cells #[.int .u64 sx,.int .u64 sy] 99) wA w') (first | assumption | exact HoldR.drew (by assumption) | exact HoldR.alloc (by assumption) hzA _) (first
     | (go_at_call 160
        refine(hAt.out _ (by assumption)).mono ?_;rintro e w4 ⟨⟨y4,rfl,ho4⟩,hb4⟩;have hS4:HoldR w1.heap.size p (.cells #[.int .u64 sx,.int .u64 sy] 99) wA w4:=HoldR.below (by assumption) hzA hb4;have hT4:Below wA.heap.size wA w4:=Below.trans (by first | exact(Below.refl _ _).drew | exact((Below.refl _ _).drew).alloc (by simp) _ | exact((Below.refl _ _).alloc (Nat.le_refl _) _).drew) (hb4.mono (HoldR.le (B:=w1.heap.size) (p:=p) (C:=.cells #[.int .u64 sx,.int .u64 sy] 99) (by assumption)));have Ho4:=hid (HoA.out.below hT4);obtain⟨ya,yc,rfl,hV⟩:=ho4.toOwnV.entsT (base':=0) Hlv.out;have HV:=hid hV
        first
         | (have zr:=zsv hb4)
         | (have zr:=zsw hb4)
         | skip
        clear hb4 ho4 hV hT4)
     | (refine zc7 rfl (.tmp 13) (.tmp 21) rfl rfl w1.heap.size 0 _ R0 rfl (Ho4.out.below (by first | exact(Below.refl _ _).alloc (Nat.le_refl _) _ | exact((Below.refl _ _).alloc (Nat.le_refl _) _).alloc (by simp) _)) _ 1 1 [([(sx,sy)],V)] rfl [(_,_)] (zgm (zsu (s:=(sx,sy)) (by first | exact yy _ _ _ _ (zg _ _ _ rfl) | exact yy _ _ _ _ zr) Hs.out 0) ⟨_,_,_,rfl,HV.out.steady (P:=fun _=>True) (.of_below (by first | exact(Below.refl _ _).alloc (Nat.le_refl _) _ | exact((Below.refl _ _).alloc (Nat.le_refl _) _).alloc (by simp) _)) trivial trivial⟩) rfl (yg (zg _ _ _ (by simp)) rfl rfl) (by have:=Hpl.out;simp;omega) (by have:=hS4.1.size;simp;omega) (Nat.zero_le _) ?_
        intro v8 w8 ho8 hg8 _;have hS8:HoldR w1.heap.size p (.cells #[.int .u64 sx,.int .u64 sy] 99) wA w8:=HoldR.grown (by assumption) hzA hg8 (fun j hj=>HlA.out j hj)))
    all_goals
     go_wp2;go_roundw
     case rel=>exact⟨d+1,by omega,by go_num,HbA.out.trans hS8.1,by rw[Hst.out];exact ho8⟩
     case measure=>simp[intOf];omega
  · obtain rfl:d=N:=by omega
    have Ho:=hid ho.out;rw[Hall.out] at Ho;go_wp2;go_ret;exact⟨⟨_,rfl,Ho.out.lower Hb1.out.size⟩,Hbw.out⟩
end
end Go.Proofs.YtdnjfnofjaoajaaGreatDoor
