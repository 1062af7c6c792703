/- Walks and laws, joined: Wb22. -/
import Derived.Test.YtdnjfnofjaoajaaGreatDoorWb21
set_option linter.unusedVariables false
set_option maxHeartbeats 16000000
namespace Go.Proofs.YtdnjfnofjaoajaaGreatDoor
open Lib (hid)
section
open Go.RowKit
theorem zul {w:World} (base:Nat) (v:Value) (n:Nat) (xs:List Iv) (hown:w.ownsRow base 99 2 v n (ivC xs)) (A:Option Addr) (c:Nat) (s:Iv) (hr:Rd w 2 A 1 (ivC [s])) (hb:n+1≤1000000000000) (hbase:base≤w.heap.size):
 ∃v' w',(Builtin.append_ #[81,81] 81 #[v,.slice A 1 c]).run Tryz.prog w=.ok v' w'∧w'.ownsRow base 99 2 v' (n+1) (ivC (xs++[s]))∧w.grownBy w' v.ownBlock∧∀g',v'.ownBlock=some g'→v.ownBlock=some g'∨w.heap.size≤g':=by
 rcases hown.2 with ⟨rfl,h0⟩ | ⟨g,cap,cur,rfl,hg,hrow,hnc,hcm,hcs,htake⟩
 · have hx:xs=[]:=by
    have:=hown.1;rw[zd1,h0] at this;exact List.length_eq_zero_iff.1 (by omega)
   subst h0 hx;obtain⟨v',w',h1,h2,h3⟩:=zd4 (w:=w) w.heap.size (.slice none 0 0) 0 [] (World.ownsRow_nil _ _ _ _) A 1 c [s] hr (by omega) (Nat.le_refl _);exact⟨v',w',h1,y9 h2 hbase,h3,fun g' e=>.inr (h2.lt _ e).1⟩
 · obtain⟨i,hi,hz,hs,hby⟩:=info_parts Tryz.info_iv;obtain⟨b,o,rfl,hc⟩:=hr.2 (by omega);by_cases hf:n+1≤cap
   · obtain⟨w',r1,r2,r3⟩:=run_append_fits (P:=Tryz.prog) w base 81 81 99 i 2 Tryz.underlying81 hi hs g n cap _ hown ⟨b,o,none⟩ 1 c (ivC [s]) rfl (hr.news (by omega)) (zqd [s]) hf;exact⟨_,w',r1,by rw[zju];exact r2,r3,fun g' e=>.inl e⟩
   · obtain⟨v',w',r1,r2,r3⟩:=run_append_arg_grows (P:=Tryz.prog) w 81 81 99 i _ 2 16 Tryz.underlying81 hi hz hs hby rfl (by omega) ⟨g,0,none⟩ n cap (ivC xs) hown.1 (fun j u hu=>hown.cells (g:=g) rfl j u hu) ⟨b,o,none⟩ 1 c (ivC [s]) rfl (hr.news (by omega)) (by omega) (by unfold maxLen;omega) (by omega);exact⟨v',w',r1,by rw[zju];exact y9 r2 hbase,⟨r3.os,r3.tape,r3.output,r3.size,fun k hk _=>r3.block k hk (by simp)⟩,fun g' e=>.inr (r2.lt _ e).1⟩
theorem zaz {w w':World} {base sz n:Nat} {e:TypeId} {v:Value} {xs:List Value} (h:w.ownsRow base e sz v n xs) (hk:∀k,v.ownBlock=some k→w'.heap[k]?=w.heap[k]?):w'.ownsRow base e sz v n xs:=by
 refine⟨h.1,?_⟩;rcases h.2 with h2 | ⟨g,cap,cur,hv,hg,hh,r⟩
 · exact .inl h2
 · subst hv;exact .inr ⟨g,cap,cur,rfl,hg,(hk g rfl).trans hh,r⟩
theorem z4v {β:Type} (f:Nat→β) (n k:Nat) (a:β):((List.range n).map f).set k a=(List.range n).map fun i=>if i=k then a else f i:=by
 refine List.ext_getElem (by simp) fun i h1 h2=>?_
 rw[List.getElem_set];simp only[List.getElem_map,List.getElem_range];by_cases h:k=i
 · rw[if_pos h,if_pos h.symm]
 · rw[if_neg h,if_neg (fun e=>h e.symm)]
theorem zum:∀(ss:List (Value×Value)) (k:Nat) (x:Value),(yt ss).set (k*2) x=yt (ss.set k (x,(ss.getD k (x,x)).2))
 | [],k,x=>by simp[yt]
 | s :: ss,0,x=>rfl
 | s :: ss,k+1,x=>by
   have e1:yt (s :: ss)=s.1 :: s.2 :: yt ss:=rfl;rw[e1,show (k+1)*2=k*2+1+1 by omega,List.set_cons_succ,List.set_cons_succ,zum ss k x]
   rfl
def zbb (n:Nat) (X Y:Nat→Value):List Value:=yt ((List.range n).map fun i=>(X i,Y i))
def upd {β:Type} (X:Nat→β) (k:Nat) (x:β):Nat→β:=fun i=>if i=k then x else X i
theorem ze6 {β:Type} (X:Nat→β) (k:Nat) (x:β):upd X k x k=x:=if_pos rfl
theorem zdp {β:Type} (X:Nat→β) {k i:Nat} (x:β) (h:i≠k):upd X k x i=X i:=if_neg h
theorem zun {n k:Nat} (hk:k<n) (X Y:Nat→Value) (x:Value):(zbb n X Y).set (k*2) x=zbb n (upd X k x) Y:=by
 unfold zbb;rw[zum,z4v];congr 1;refine List.map_congr_left fun i hi=>?_
 by_cases h:i=k
 · subst h;simp[upd,hk]
 · simp[upd,h]
theorem zgy {n k:Nat} (hk:k<n) (X Y:Nat→Value):(zbb n X Y)[k*2]?=some (X k)∧(zbb n X Y)[k*2+1]?=some (Y k):=
 zh8 (p:=(X k,Y k)) (by simp[hk])
theorem z4w (n:Nat) (X Y:Nat→Value):zbb (n+1) X Y=zbb n X Y++[X n,Y n]:=by
 unfold zbb;rw[List.range_succ,List.map_append,zko]
 rfl
structure BldM (w2 w:World) (base g n c:Nat) (Y:Nat→Value) (L:Nat→List Iv) (X:Nat→Value):Prop where
 kept:Kept (fun b=>b<w2.heap.size∧b≠g) w2 w
 row:w.ownsRow base 85 2 (.slice (some ⟨g,0,none⟩) n c) n (zbb n X Y)
 its:∀i,i<n→w.ownsRow w2.heap.size 99 2 (X i) (L i).length (ivC (L i))
 apart:∀i,i<n→∀j,j<n→i≠j→∀b,(X i).ownBlock=some b→(X j).ownBlock≠some b
theorem BldM.cells {w2 w:World} {base g n c:Nat} {Y:Nat→Value} {L:Nat→List Iv} {X:Nat→Value} (h:BldM w2 w base g n c Y L X) {i:Nat} (hi:i<n):w.cell? ⟨g,i*2,none⟩=some (X i)∧w.cell? ⟨g,i*2+1,none⟩=some (Y i):=by
 obtain⟨e1,e2⟩:=zgy hi X Y;have c1:=h.row.cells (g:=g) rfl _ _ e1;have c2:=h.row.cells (g:=g) rfl _ _ e2;rw[yp,Nat.zero_add] at c1 c2;exact⟨c1,c2⟩
theorem BldM.below {w2 w w':World} {base g n c:Nat} {Y:Nat→Value} {L:Nat→List Iv} {X:Nat→Value} (h:BldM w2 w base g n c Y L X) (hb:Below w.heap.size w w'):BldM w2 w' base g n c Y L X:=
 ⟨h.kept.below hb,zm h.row hb,fun i hi=>zm (h.its i hi) hb,h.apart⟩
theorem BldM.step {w2 w w':World} {base g n c j:Nat} {Y:Nat→Value} {L L':Nat→List Iv} {X:Nat→Value} (h:BldM w2 w base g n c Y L X) (hj:j<n) (hg:g<w2.heap.size) {v':Value} {l:List Iv}
 (ho:w'.ownsRow w2.heap.size 99 2 v' l.length (ivC l)) (hgr:w.grownBy w' (X j).ownBlock) (hv:∀g',v'.ownBlock=some g'→(X j).ownBlock=some g'∨w.heap.size≤g') (hL:L' j=l) (hO:∀i,i≠j→L' i=L i):
 BldM w2 (w'.setCell ⟨g,j*2,none⟩ v') base g n c Y L' (upd X j v'):=by
 have hne:∀k,(X j).ownBlock=some k→w2.heap.size≤k:=fun k hk=>((h.its j hj).lt k hk).1
 have hgw:g<w.heap.size:=Nat.lt_of_lt_of_le hg h.kept.size
 have hrow':w'.ownsRow base 85 2 (.slice (some ⟨g,0,none⟩) n c) n (zbb n X Y):=zaz h.row fun k hk=>by
  have e:k=g:=by simpa [Value.ownBlock] using hk.symm
  subst e;exact hgr.block k hgw fun e=>by have:=hne k e.symm;omega
 have hset:∀k,w2.heap.size≤k→(w'.setCell ⟨g,j*2,none⟩ v').heap[k]?=w'.heap[k]?:=fun k hk=>Below.heap_setCell _ _ _ _ (by simp only;omega)
 refine⟨(h.kept.grown hgr fun k hk hl=>?_).setCell (fun _ h=>h.2 rfl) _,?_,fun i hi=>?_,fun i hi i' hi' hii b=>?_⟩
 · have:=hne k hk;omega
 · rw[←zun hj];exact(hrow'.stored (j*2) v').1
 · by_cases e:i=j
   · subst e;rw[ze6,hL];exact zaz ho fun k hk=>hset k (ho.lt k hk).1
   · rw[zdp _ _ e,hO i e];refine zaz (h.its i hi) fun k hk=>?_
     have hkl:=(h.its i hi).lt k hk;rw[hset k hkl.1];exact hgr.block k hkl.2 (fun e'=>h.apart i hi j hj e k hk e'.symm)
 · by_cases e:i=j
   · subst e;rw[ze6,zdp _ _ (fun e=>hii e.symm)];intro hb hb';have hkl:=(h.its i' hi').lt b hb';rcases hv b hb with h' | h'
     · exact h.apart i hi i' hi' hii b h' hb'
     · omega
   · rw[zdp _ _ e];intro hb;by_cases e':i'=j
     · subst e';rw[ze6];intro hb';have hkl:=(h.its i hi).lt b hb;rcases hv b hb' with h' | h'
       · exact h.apart i hi i' hi' hii b hb h'
       · omega
     · rw[zdp _ _ e'];exact h.apart i hi i' hi' hii b hb
theorem z4x {w2 w:World} {base g:Nat} {y:Value} {v:Vec} (h:EnSl w2 base y v) (hk:Kept (fun b=>b<w2.heap.size∧b≠g) w2 w) {C:Array Value} {fr:Nat×Nat} (hg:w2.heap[g]?=some (.cells C 85 fr)) (hb:base≤g):EnSl w base y v:=by
 refine h.steady (P:=zbp) ⟨hk.size,fun k hk2 hp=>hk.row k hk2 ⟨hk2,fun e=>?_⟩⟩ (.inl rfl) (.inr rfl);subst e;rcases hp with h' | ⟨C',T,fr',hT,h'⟩
 · omega
 · rw[hg] at h';cases h';rcases hT with h | h <;> cases h
theorem BldM.frags {w2 w:World} {base g n c ib:Nat} {Y:Nat→Value} {L:Nat→List Iv} {X:Nat→Value} (h:BldM w2 w base g n c Y L X) (hg:base≤g) (hib:ib≤g) {k:Kno} (hk:k.length=n) (hL:∀i,i<n→(za k i).1=L i) (h64:∀i,i<n→zq (L i)) (hY:∀i,i<n→EnSl w2 ib (Y i) (za k i).2)
 {C:Array Value} {fr:Nat×Nat} (hr:w2.heap[g]?=some (.cells C 85 fr)):Frags w (some ⟨g,0,none⟩) n c k:=by
 have hcc:n≤c∧c≤9223372036854775807:=by
  rcases h.row.2 with ⟨h',_⟩ | ⟨g',cap,cur,h',_,_,hnc,hcm,_⟩
  · cases h'
  · cases h';unfold maxLen at hcm;omega
 refine⟨hk,hcc.1,hcc.2,(by intro e;cases e),fun hn=>⟨g,0,rfl,fun i hi=>?_⟩⟩
 · obtain⟨c1,c2⟩:=h.cells hi;rw[Nat.zero_add];constructor
   · obtain⟨a,c,e,hI⟩:=zah (h.its i hi) (h64 i hi);rw[e] at c1;exact⟨a,_,c,c1,by rw[hL i hi];exact hI⟩
   · obtain⟨a,m,c,e,hE⟩:=z4x (hY i hi) h.kept hr hib;rw[e] at c2;exact⟨a,m,c,c2,hE.ents⟩
structure Vecs (w:World) (a:Option Addr) (n cap:Nat) (vs:List Vec):Prop where
 len:vs.length=n
 room:n≤cap
 most:cap≤9223372036854775807
 nilc:a=none→cap=0
 cells:0<n→∃b o,a=some ⟨b,o,none⟩∧∀i,i<n→EnCell w ⟨b,o+i,none⟩ (vg vs i)
theorem Vecs.below {w w':World} {a:Option Addr} {n cap:Nat} {vs:List Vec} (h:Vecs w a n cap vs) (hb:Below w.heap.size w w'):Vecs w' a n cap vs:=by
 refine⟨h.len,h.room,h.most,h.nilc,fun hn=>?_⟩;obtain⟨b,o,ha,hc⟩:=h.cells hn;exact⟨b,o,ha,fun i hi=>(hc i hi).below hb⟩
theorem Vecs.fix {w:World} {b o n cap:Nat} {vs:List Vec} (h:Vecs w (some ⟨b,o,none⟩) n cap vs) {i:Nat} (hi:i<n):∃y m c,∀w',Below w.heap.size w w'→w'.cell? ⟨b,o+i,none⟩=some (.slice y m c)∧Ents w' y m c (vg vs i):=by
 obtain⟨b',o',hs,hc⟩:=h.cells (by omega);cases hs;obtain⟨y,m,c,h1,h2⟩:=hc i hi;exact⟨y,m,c,fun w' hb=>⟨(hb.cell (ze h1)).trans h1,h2.below hb⟩⟩
theorem Vecs.some {w:World} {a:Option Addr} {n cap:Nat} {vs:List Vec} (h:Vecs w a n cap vs) (hn:0<n):∃b o,a=some ⟨b,o,none⟩:=by
 obtain⟨b,o,ha,-⟩:=h.cells hn;exact⟨b,o,ha⟩
structure Zs (w:World) (a:Option Addr) (n cap:Nat) (l:List Int):Prop where
 len:l.length=n
 room:n≤cap
 most:cap≤9223372036854775807
 nilc:a=none→cap=0
 lt:∀x∈l,-9223372036854775808≤x∧x≤9223372036854775807
 cells:0<n→∃b o,a=some ⟨b,o,none⟩∧∀i,i<n→w.cell? ⟨b,o+i,none⟩=some (.int .i64 (zda l i))
theorem Zs.below {w w':World} {a:Option Addr} {n cap:Nat} {l:List Int} (h:Zs w a n cap l) (hb:Below w.heap.size w w'):Zs w' a n cap l:=by
 refine⟨h.len,h.room,h.most,h.nilc,h.lt,fun hn=>?_⟩;obtain⟨b,o,ha,hc⟩:=h.cells hn;exact⟨b,o,ha,fun i hi=>(hb.cell (p:=⟨b,o+i,none⟩) (ze (hc i hi))).trans (hc i hi)⟩
theorem Ivs.at {w:World} {b o n c:Nat} {l:List Iv} (h:Ivs w (some ⟨b,o,none⟩) n c l) {j:Nat} (hj:j<n) (w':World) (hb:Below w.heap.size w w'):w'.cell? ⟨b,o+j*2,none⟩=some (.int .u64 (((zb l j).1:Nat):Int))∧w'.cell? ⟨b,o+j*2+1,none⟩=some (.int .u64 (((zb l j).2:Nat):Int)):=by
 obtain⟨b',o',e,hc⟩:=(h.below hb).cells (by omega);cases e;exact hc j hj
theorem Zs.at {w:World} {b o n c:Nat} {l:List Int} (h:Zs w (some ⟨b,o,none⟩) n c l) {j:Nat} (hj:j<n) (w':World) (hb:Below w.heap.size w w'):w'.cell? ⟨b,o+j,none⟩=some (.int .i64 (zda l j)):=by
 obtain⟨b',o',e,hc⟩:=(h.below hb).cells (by omega);cases e;exact hc j hj
theorem Zs.some {w:World} {a:Option Addr} {n c:Nat} {l:List Int} (h:Zs w a n c l) (hn:0<n):∃b o,a=some ⟨b,o,none⟩:=by
 obtain⟨b,o,ha,-⟩:=h.cells hn;exact⟨b,o,ha⟩
theorem Ivs.some {w:World} {a:Option Addr} {n c:Nat} {l:List Iv} (h:Ivs w a n c l) (hn:0<n):∃b o,a=some ⟨b,o,none⟩:=by
 obtain⟨b,o,ha,-⟩:=h.cells hn;exact⟨b,o,ha⟩
theorem Row.ne_own {w:World} {g base sz n:Nat} {T e:TypeId} {C xs:List Value} {V:Value} (h:Row w g T C) (ho:w.ownsRow base e sz V n xs) (hT:T≠e):∀k,V.ownBlock=some k→k≠g:=by
 intro k hk e';subst e';rcases ho.2 with ⟨rfl,_⟩ | ⟨b,cap,cur,rfl,_,hh,_⟩
 · cases hk
 · have e2:b=k:=by simpa [Value.ownBlock] using hk
   subst e2;unfold Row at h;rw[hh] at h;injection h with h;injection h with _ h _;exact hT h.symm
theorem zgz {w:World} {base base' sz sz' n n':Nat} {e e':TypeId} {V V':Value} {xs xs':List Value} (h:w.ownsRow base e sz V n xs) (h':w.ownsRow base' e' sz' V' n' xs') (hT:e≠e'):∀k,V.ownBlock=some k→V'.ownBlock≠some k:=by
 intro k hk hk';rcases h.2 with ⟨rfl,_⟩ | ⟨b,cap,cur,rfl,_,hh,_⟩
 · cases hk
 · rcases h'.2 with ⟨rfl,_⟩ | ⟨b',cap',cur',rfl,_,hh',_⟩
   · cases hk'
   · have e1:b=k:=by simpa [Value.ownBlock] using hk
     have e2:b'=k:=by simpa [Value.ownBlock] using hk'
     subst e1 e2;rw[hh] at hh';injection hh' with hh';injection hh' with _ hh' _;exact hT hh'
theorem Row.ne {w:World} {g g':Nat} {T T':TypeId} {C C':List Value} (h:Row w g T C) (h':Row w g' T' C') (hT:T≠T'):g≠g':=by
 intro e;subst e;unfold Row at h h';rw[h] at h';injection h' with h';injection h' with _ h' _;exact hT h'
def NotT (w:World) (g:Nat):Prop:=∀C T fr,w.heap[g]?=some (.cells C T fr)→¬zc6 T
theorem Row.notT {w:World} {g:Nat} {T:TypeId} {C:List Value} (h:Row w g T C) (hT:¬zc6 T):NotT w g:=by
 intro C' T' fr h';unfold Row at h;rw[h] at h';injection h' with h';injection h' with _ h' _;subst h';exact hT
theorem z4y {w:World} {g c:Nat} {es:Array MapEntry} (h:w.heap[g]?=some (.map es c)):NotT w g:=by
 intro C' T' fr h';rw[h] at h';injection h' with h';cases h'
theorem NotT.own {w:World} {g base sz n:Nat} {e:TypeId} {xs:List Value} {V:Value} (h:NotT w g) (ho:w.ownsRow base e sz V n xs) (hT:zc6 e):∀k,V.ownBlock=some k→k≠g:=by
 intro k hk e';subst e';rcases ho.2 with ⟨rfl,_⟩ | ⟨b,cap,cur,rfl,_,hh,_⟩
 · cases hk
 · have e2:b=k:=by simpa [Value.ownBlock] using hk
   subst e2;exact h _ _ _ hh hT
theorem ziu {w w':World} {g base:Nat} (h:NotT w g) (hb:base≤g) (hg:w.grownBy w' (some g)):Steady base zc6 w w':=⟨hg.size,fun k hk hp=>hg.block k hk fun e=>by
 injection e with e;subst e;rcases hp with h' | ⟨C,T,fr,hT,h'⟩
 · omega
 · exact h _ _ _ h' hT⟩
def zok (lim:Nat) (ss:List Value):Prop:=∀p n c,Value.slice (some p) n c∈ss→0<n→p.block<lim
theorem z4z {w:World} {v:Vec} {ss:List Value} (h:HolesT w 0 v ss):zok w.heap.size ss:=by
 intro p n c hm hn;obtain⟨i,hi,e⟩:=List.getElem_of_mem hm;obtain⟨a,m,d,h1,h2⟩:=h.2 i (by rw[←h.1];exact hi);rw[List.getElem?_eq_getElem hi,e] at h1;injection h1 with h1;injection h1 with h3 h4 h5;subst h3 h4;obtain⟨b,o,ha,hc⟩:=h2.ivs.cells hn;cases ha;exact ze (hc 0 hn).1
theorem zg0 {w w':World} {v:Vec} {ss:List Value} {lim:Nat} (h:HolesT w 0 v ss) (hB:zok lim ss) (hk:∀k,k<lim→k<w.heap.size→w'.heap[k]?=w.heap[k]?∨∃C T fr,T≠99∧w.heap[k]?=some (.cells C T fr)):HolesT w' 0 v ss:=by
 refine⟨h.1,fun i hi=>?_⟩;obtain⟨a,n,c,h1,h2⟩:=h.2 i hi;refine⟨a,n,c,h1,zsp h2 fun hn p hp hw=>?_⟩;subst hp;rcases hk p.block (hB p n c (List.mem_of_getElem? h1) hn) hw with h3 | ⟨C,T,fr,hT,h3⟩
 · exact h3
 · rcases h2.row hn p rfl with h4 | ⟨C',fr',h4⟩
   · omega
   · rw[h3] at h4;injection h4 with h4;injection h4 with _ h4 _;exact absurd h4 hT
def EntO (w:World) (base:Nat) (V:Value) (v:Vec) (r m:Nat) (h:List Iv):Prop:=
 ∃lim ss S,base≤lim∧lim≤w.heap.size∧w.ownsRow base 101 3 V (v.length+1) (za6 v ss++[.int .u64 ((r:Nat):Int),.int .u64 ((m:Nat):Int),S])∧HolesT w 0 v ss∧zok lim ss∧w.ownsRow lim 99 2 S h.length (ivC h)
theorem EntO.later {w w':World} {base:Nat} {V:Value} {v:Vec} {r m:Nat} {h:List Iv} (hE:EntO w base V v r m h) (hb:Below w.heap.size w w'):EntO w' base V v r m h:=by
 obtain⟨lim,ss,S,h1,h2,h3,h4,h5,h6⟩:=hE;exact⟨lim,ss,S,h1,Nat.le_trans h2 hb.size,zm h3 hb,zg0 h4 h5 fun k _ hk=>.inl (hb.block k hk),h5,zm h6 hb⟩
theorem EntO.grown {w w':World} {base g:Nat} {V:Value} {v:Vec} {r m:Nat} {h:List Iv} (hE:EntO w base V v r m h) (hN:NotT w g) (hg:w.grownBy w' (some g)):EntO w' base V v r m h:=by
 obtain⟨lim,ss,S,h3,h4,h5,h6,h7,h8⟩:=hE;refine⟨lim,ss,S,h3,Nat.le_trans h4 hg.size,zaz h5 fun k hk=>hg.block k (h5.lt k hk).2 fun e=>hN.own h5 (.inr (.inl rfl)) k hk (by injection e),h6.steady (ziu hN (Nat.zero_le _) hg) (.inl rfl),h7,zaz h8 fun k hk=>hg.block k (h8.lt k hk).2 fun e=>hN.own h8 (.inl rfl) k hk (by injection e)⟩
theorem OwnV.grown {w w':World} {base g:Nat} {V:Value} {v:Vec} (hE:OwnV w base V v) (hN:NotT w g) (hg:w.grownBy w' (some g)):OwnV w' base V v:=by
 obtain⟨ss,h5,h6⟩:=hE;exact⟨ss,zaz h5 fun k hk=>hg.block k (h5.lt k hk).2 fun e=>hN.own h5 (.inr (.inl rfl)) k hk (by injection e),h6.steady (ziu hN (Nat.zero_le _) hg) (.inl rfl)⟩
theorem EntO.at {w:World} {base:Nat} {V:Value} {v:Vec} {r m:Nat} {h:List Iv} (hE:EntO w base V v r m h):∃g cap,V=.slice (some ⟨g,0,none⟩) (v.length+1) cap∧base≤g∧g<w.heap.size∧(∃C fr,w.heap[g]?=some (.cells C 101 fr))∧w.cell? ⟨g,v.length*3,none⟩=some (.int .u64 ((r:Nat):Int))∧w.cell? ⟨g,v.length*3+1,none⟩=some (.int .u64 ((m:Nat):Int))∧
 (∀j,w.frozen? ⟨g,j,none⟩=false)∧∃S lim,w.cell? ⟨g,v.length*3+2,none⟩=some S∧base≤lim∧w.ownsRow lim 99 2 S h.length (ivC h):=by
 obtain⟨lim,ss,S,h1,h2,h3,h4,h5,h6⟩:=hE;obtain⟨g,cap,rfl,hg,hgl,hn,hm⟩:=zb3 h3 (Nat.succ_pos _);have hl:=zkb h4.1
 have get:∀j u,[Value.int .u64 ((r:Nat):Int),.int .u64 ((m:Nat):Int),S][j]?=some u→w.cell? ⟨g,v.length*3+j,none⟩=some u:=fun j u hu=>by
  have:=h3.cells (g:=g) rfl (v.length*3+j) u (by rw[List.getElem?_append_right (by omega),hl,Nat.add_sub_cancel_left];exact hu);rw[yp,Nat.zero_add] at this;exact this
 refine⟨g,cap,rfl,hg,hgl,?_,get 0 _ rfl,get 1 _ rfl,fun j=>h3.frozenAt j,S,lim,get 2 _ rfl,h1,h6⟩;rcases h3.2 with ⟨h',_⟩ | ⟨g',cap',cur,h',_,hh,_⟩
 · cases h'
 · cases h';exact⟨_,_,hh⟩
theorem EntO.max {w:World} {base g cap:Nat} {v:Vec} {r m:Nat} {h:List Iv} (hE:EntO w base (.slice (some ⟨g,0,none⟩) (v.length+1) cap) v r m h) (m':Nat):EntO (w.setCell ⟨g,v.length*3+1,none⟩ (.int .u64 ((m':Nat):Int))) base (.slice (some ⟨g,0,none⟩) (v.length+1) cap) v r m' h:=by
 obtain⟨lim,ss,S,h1,h2,h3,h4,h5,h6⟩:=hE;have hl:=zkb h4.1;obtain⟨k1,k2⟩:=h3.stored (v.length*3+1) (.int .u64 ((m':Nat):Int));rw[List.set_append_right _ _ (by omega),hl,Nat.add_sub_cancel_left] at k1
 have hr:∃C fr,w.heap[g]?=some (.cells C 101 fr):=by
  rcases h3.2 with ⟨h',_⟩ | ⟨g',cap',cur,h',_,hh,_⟩
  · cases h'
  · cases h';exact⟨_,_,hh⟩
 obtain⟨C,fr,hr⟩:=hr;refine⟨lim,ss,S,h1,by simpa using h2,k1,zg0 h4 h5 fun k _ hk=>?_,h5,zaz h6 fun k hk=>k2.block k (h6.lt k hk).2 fun e=>zgz h3 h6 (by decide) g rfl (by injection e with e;subst e;exact hk)⟩;by_cases e:k=g
 · subst e;exact .inr ⟨C,101,fr,by decide,hr⟩
 · exact .inl (k2.block k hk fun e'=>e (by injection e'))
theorem EntO.hole {w:World} {base g cap:Nat} {v:Vec} {r m:Nat} {h:List Iv} (hE:EntO w base (.slice (some ⟨g,0,none⟩) (v.length+1) cap) v r m h) {S:Value} (hS:w.cell? ⟨g,v.length*3+2,none⟩=some S) (s:Iv) (W:World) (hW:Below w.heap.size w W) (A:Option Addr) (c:Nat) (hr:Rd W 2 A 1 (ivC [s])) (hb:h.length+1≤1000000000000):
 ∃S' w',(Builtin.append_ #[81,81] 81 #[S,.slice A 1 c]).run Tryz.prog W=.ok S' w'∧(∃gS cS,S'=.slice (some ⟨gS,0,none⟩) (h.length+1) cS)∧Below base W w'∧W.heap.size≤w'.heap.size∧w'.cell? ⟨g,v.length*3+2,none⟩=some S∧w'.frozen? ⟨g,v.length*3+2,none⟩=false∧W.grownBy w' S.ownBlock∧(∀k,S.ownBlock=some k→base≤k∧∃C fr,W.heap[k]?=some (.cells C 99 fr))∧
  ∀w2,w'.grownBy w2 none→EntO (w2.setCell ⟨g,v.length*3+2,none⟩ S') base (.slice (some ⟨g,0,none⟩) (v.length+1) cap) v r m (h++[s]):=by
 have hE':=hE.later hW;obtain⟨lim,ss,S0,h1,h2,h3,h4,h5,h6⟩:=hE;have hl:=zkb h4.1
 have e0:S0=S:=by
  have:=h3.cells (g:=g) rfl (v.length*3+2) S0 (by rw[List.getElem?_append_right (by omega),hl,Nat.add_sub_cancel_left];rfl);rw[yp,Nat.zero_add,hS] at this;injection this with this;exact this.symm
 subst e0;have k3:=zm h3 hW;have k6:=zm h6 hW;have k4:HolesT W 0 v ss:=zg0 h4 h5 fun k _ hk=>.inl (hW.block k hk)
 obtain⟨S',w',hrun,ho,hg,hat⟩:=zul lim S0 h.length h k6 A c s hr hb (Nat.le_trans h2 hW.size);have hne:S0.ownBlock≠some g:=fun e=>zgz k3 k6 (by decide) g rfl e
 have e3:w'.ownsRow base 101 3 (.slice (some ⟨g,0,none⟩) (v.length+1) cap) (v.length+1) (za6 v ss++[.int .u64 ((r:Nat):Int),.int .u64 ((m:Nat):Int),S0]):=zaz k3 fun k hk=>by
  have e:g=k:=by simpa [Value.ownBlock] using hk
  subst e;exact hg.block g (k3.lt g rfl).2 fun e=>hne e.symm
 have e4:HolesT w' 0 v ss:=zg0 k4 h5 fun k hk hw=>.inl (hg.block k hw fun e=>by
  have:=(k6.lt k e.symm).1;omega)
 have hat2:∀k,S0.ownBlock=some k→base≤k∧∃C fr,W.heap[k]?=some (.cells C 99 fr):=fun k hk=>⟨Nat.le_trans h1 (k6.lt k hk).1,by
  rcases k6.2 with ⟨rfl,_⟩ | ⟨b,cap',cur,rfl,_,hh,_⟩
  · cases hk
  · have e:b=k:=by simpa [Value.ownBlock] using hk
    subst e;exact⟨_,_,hh⟩⟩
 have hcell:w'.cell? ⟨g,v.length*3+2,none⟩=some S0:=by
  have:=e3.cells (g:=g) rfl (v.length*3+2) S0 (by rw[List.getElem?_append_right (by omega),hl,Nat.add_sub_cancel_left];rfl);rw[yp,Nat.zero_add] at this;exact this
 obtain⟨gS,cS,eS,-⟩:=zb3 ho (Nat.succ_pos _);refine⟨S',w',hrun,⟨gS,cS,eS⟩,⟨hg.os,hg.tape,hg.output,hg.size,fun k hk=>hg.block k (by have:=hW.size;omega) fun e=>by have:=(hat2 k e.symm).1;omega⟩,hg.size,hcell,e3.frozenAt _,hg,hat2,fun w2 h2'=>?_⟩;have f3:w2.ownsRow base 101 3 (.slice (some ⟨g,0,none⟩) (v.length+1) cap) (v.length+1) (za6 v ss++[.int .u64 ((r:Nat):Int),.int .u64 ((m:Nat):Int),S0]):=zaz e3 fun k hk=>h2'.block k (e3.lt k hk).2 (by simp)
 have f6:w2.ownsRow lim 99 2 S' (h.length+1) (ivC (h++[s])):=zaz ho fun k hk=>h2'.block k (ho.lt k hk).2 (by simp)
 have f4:HolesT w2 0 v ss:=zg0 e4 h5 fun k _ hk=>.inl (h2'.block k hk (by simp))
 obtain⟨k1,k2⟩:=f3.stored (v.length*3+2) S';rw[List.set_append_right _ _ (by omega),hl,Nat.add_sub_cancel_left] at k1
 have hrow:∃C fr,w2.heap[g]?=some (.cells C 101 fr):=by
  rcases f3.2 with ⟨h',_⟩ | ⟨g',cap',cur,h',_,hh,_⟩
  · cases h'
  · cases h';exact⟨_,_,hh⟩
 obtain⟨C,fr,hrow⟩:=hrow;refine⟨lim,ss,S',h1,Nat.le_trans h2 (Nat.le_trans hW.size (Nat.le_trans hg.size (Nat.le_trans h2'.size k2.size))),k1,zg0 f4 h5 fun k _ hk=>?_,h5,?_⟩
 · by_cases e:k=g
   · subst e;exact .inr ⟨C,101,fr,by decide,hrow⟩
   · exact .inl (k2.block k hk fun e'=>e (by injection e'))
 · have hne2:∀k,S'.ownBlock=some k→k≠g:=fun k hk e=>zgz f3 f6 (by decide) g rfl (by rw[←e];exact hk)
   have f7:=zaz (w':=w2.setCell ⟨g,v.length*3+2,none⟩ S') f6 fun k hk=>k2.block k (f6.lt k hk).2 fun e=>hne2 k hk (by injection e)
   have e7:(h++[s]).length=h.length+1:=by simp
   rw[e7];exact f7
theorem EntO.close {w:World} {base:Nat} {V:Value} {v:Vec} {r m:Nat} {h:List Iv} (hE:EntO w base V v r m h) (hl:zq h):OwnV w base V (v++[(r,m,h)]):=by
 obtain⟨lim,ss,S,h1,h2,h3,h4,h5,h6⟩:=hE;obtain⟨a,c,rfl,hI⟩:=zdn (base':=0) h6 hl;refine⟨ss++[.slice a h.length c],?_,h4.snoc (e:=(r,m,h)) hI⟩;rw[znf h4.1,List.length_append];exact h3
theorem OwnV.open {w:World} {base:Nat} {V:Value} {v:Vec} (hV:OwnV w base V v) (r:Nat) (A:Option Addr) (c:Nat) (hr:Rd w 3 A 1 [.int .u64 ((r:Nat):Int),.int .u64 0,.slice none 0 0]) (hb:v.length+1≤1000000000000) (hbase:base≤w.heap.size):
 ∃V' w',(Builtin.append_ #[83,83] 83 #[V,.slice A 1 c]).run Tryz.prog w=.ok V' w'∧EntO w' base V' v r 0 []∧w.grownBy w' V.ownBlock∧(∀k,V.ownBlock=some k→base≤k):=by
 obtain⟨ss,ho,hh⟩:=hV;obtain⟨V',w',h1,h2,h3⟩:=zcp base _ _ _ _ 3 40 Tryz.underlying83 Tryz.info_ent rfl (by omega) V v.length _ ho A 1 c _ hr (by simp[Value.oneCell']) (by unfold maxLen;omega) (by omega) hbase;have hs:Steady base zb1 w w':=.grown ho h3 (show ¬(101:TypeId)=99 by decide);exact⟨V',w',h1,⟨w.heap.size,ss,.slice none 0 0,hbase,h3.size,h2,hh.steady (hs.lower (Nat.zero_le _)) rfl,z4z hh,World.ownsRow_nil _ _ _ _⟩,h3,fun k hk=>(ho.lt k hk).1⟩
end
section
open Go.RowKit Go.Shelf
attribute [local go_sem] Oper.semAt_some zd7
theorem z40 (a b:Option Addr) (n c m d:Nat) (va vb:Vec) (w:World) (hA:Ents w a n c va) (hB:Ents w b m d vb) (fa:VecFits va) (fb:VecFits vb) (ca:ckV va=none) (cb:ckV vb=none):
 Calls Tryz.prog 207 #[.slice a n c,.slice b m d] w fun e w'=>(∃y,e=.returned y∧OwnV2 w' w.heap.size y (doV gOr va vb))∧Below w.heap.size w w':=by
 have hC:=hid (z4u a b n c m d va vb w hA hB fa fb ca cb);clear hA hB fa fb ca cb;go_enter Tryz.func207,Tryz.ntmps207;go_wp2_with fail;refine hC.out.mono ?_;rintro e w1 ⟨⟨y,rfl,ho⟩,hb⟩;have Ho:=hid ho;have Hb:=hid hb;clear ho hb;go_wp2;go_ret;exact⟨⟨y,rfl,Ho.out⟩,Hb.out⟩
def zb6 (k:Kno) (P:List Nat):Vec:=P.foldl (fun V i=>doV gOr V (za k i).2) []
theorem zuo (k:Kno) (P:List Nat) (i:Nat):zb6 k (P++[i])=doV gOr (zb6 k P) (za k i).2:=by simp[zb6]
theorem zol (k:Kno) (t:Nat):∀(n:Nat) (P rest:List Nat),kz k t n=P++rest→∃d,d≤n∧P=kz k t d
 | 0,P,rest,h=>by
   have h0:kz k t 0=[]:=rfl;rw[h0] at h;obtain⟨h1,-⟩:=List.append_eq_nil_iff.1 h.symm
   exact⟨0,Nat.le_refl _,by rw[h1];rfl⟩
 | n+1,P,rest,h=>by
   rcases zcm rest with rfl | ⟨l,x,rfl⟩
   · exact⟨n+1,Nat.le_refl _,by rw[h];simp⟩
   · rw[zib] at h;by_cases hm:mem (za k n).1 t=true
     · rw[if_pos hm,←List.append_assoc] at h;have h2:=(List.append_inj' h rfl).1;obtain⟨d,hd,e⟩:=zol k t n P l h2;exact⟨d,by omega,e⟩
     · rw[if_neg hm,List.append_nil] at h;obtain⟨d,hd,e⟩:=zol k t n P _ h;exact⟨d,by omega,e⟩
theorem zle (k:Kno) (t:Nat):∀d,d≤k.length→zb6 k (kz k t d)=kt k t d
 | 0,_=>rfl
 | d+1,h=>by
   rw[zib,zkr (by omega)];by_cases hm:mem (za k d).1 t=true
   · rw[if_pos hm,if_pos hm,zuo,zle k t d (by omega)]
   · rw[if_neg hm,if_neg hm,List.append_nil,zle k t d (by omega)]
theorem z41 {k:Kno} {t:Nat} {P rest:List Nat} (h:zw k t=P++rest):∃d,d≤k.length∧zb6 k P=kt k t d:=by
 obtain⟨d,hd,rfl⟩:=zol k t k.length P rest h;exact⟨d,hd,zle k t d hd⟩
theorem zlf {v:Vec} (h:CanV v):ckV v=none:=by
 have:=znj.2 h;simp only[za9,Bool.and_eq_true,decide_eq_true_eq] at this;exact this.1
theorem zom {k:Kno} (h:LtK k) (x d:Nat):CanV (kt k x d):=(zc1 (fun f hf=>h f (List.mem_of_mem_take hf)) x).1
structure Joins (k:Kno):Prop where
 fits:KnoFits k
 lt:LtK k
 ck:∀f∈k,ckV f.2=none
 good:∀f∈k,Good f.1
theorem z42 (y:Value) (V:Vec) (U:Vec) (i:Nat) (s1:Value) (b:Option Addr) (m c B:Nat) (w:World) (ho:OwnV2 w B y V) (lV:LtV V) (hU:Ents w b m c U) (fV:VecFits V) (fU:VecFits U) (cV:ckV V=none) (cU:ckV U=none):
 Calls Tryz.prog 206 #[y,.int .i64 ((i:Nat):Int),.agg #[s1,.slice b m c]] w fun e w'=>(∃v,e=.returned v∧OwnV2 w' w.heap.size v (doV gOr V U))∧Below w.heap.size w w':=by
 obtain⟨a,ca,rfl,hV⟩:=ho.toOwnV.ents lV;have hal:Below w.heap.size w (w.alloc (.cells #[s1,.slice b m c] 85)):=(Below.refl _ _).alloc (Nat.le_refl _) _;have hC:=hid (z40 a b V.length ca m c V U _ (hV.below hal) (hU.below hal) fV fU cV cU);have Hal:=hid hal;clear ho hV hU fV fU cV cU hal;go_enter Tryz.func206,Tryz.ntmps206;go_wp2_with fail;refine hC.out.mono ?_;rintro e w1 ⟨⟨v,rfl,ho⟩,hb⟩;have Ho:=hid ho;have Hb:=hid hb;clear ho hb;go_wp2;go_ret;exact⟨⟨v,rfl,Ho.out.lower Hal.out.size⟩,Hal.out.trans (Hb.out.mono Hal.out.size)⟩
set_option maxRecDepth 20000 in
theorem z43 (w0 w:World) (bk bt:Nat) (a:Option Addr) (m c t:Nat) (k:Kno) (hE:Frags w0 a m c k) (hJ:Joins k) (hb0:Below w0.heap.size w0 w)
 (hbk:w.heap[bk]?=some (.cells #[.slice a m c] 25)) (hbt:w.heap[bt]?=some (.cells #[.int .u64 t] 52)):
 Calls Tryz.prog 204 #[.func (.func 246) #[] #[.pointer (some ⟨bk,0,none⟩),.pointer (some ⟨bt,0,none⟩)],.slice none 0 0,.func (.func 206) #[] #[]] w fun e w'=>
  (∃y,e=.returned y∧OwnV2 w' w.heap.size y (atK k t))∧Below w.heap.size w w':=by
 have hm:m≤500:=by have:=hE.len;have:=hJ.fits.len;omega
 have hG:∀f∈k,Good f.1∧f.1.length≤1000000:=fun f hf=>⟨hJ.good f hf,by have:=hJ.fits.items f hf;omega⟩
 have hbkl:=(Array.getElem?_eq_some_iff.1 hbk).1;have hbtl:=(Array.getElem?_eq_some_iff.1 hbt).1;have hs0:=hb0.size;have HJ:=hid hJ;have HE0:=hid hE;have Hb00:=hid hb0;refine(callsIn_wide (n:=3)).1 ?_;refine callsIn_of_wp_marks Tryz.func204 rfl trivial ?_ rfl;simp only[Tryz.ntmps204,List.size_toArray,List.length_cons,List.length_nil,Nat.reduceAdd,Nat.reduceSub,Array.replicate_succ,Array.replicate_zero,List.push_toArray,List.append_toArray,List.nil_append,List.cons_append];refine wpIn_wide.2 ?_;go_wp2;refine(wpIn_wide (n:=3)).1 ?_;obtain⟨C0,hC0⟩:∃C0:Obj,C0=.cells #[.slice none 0 0] 83:=⟨_,rfl⟩;obtain⟨C1,hC1⟩:∃C1:Obj,C1=.cells #[.func (.func 206) #[] #[]] 296:=⟨_,rfl⟩;rw[←hC0,←hC1];obtain⟨wl,hwl⟩:∃wl:World,wl=(w.alloc C0).alloc C1:=⟨_,rfl⟩;rw[←hwl];have hsz:wl.heap.size=w.heap.size+2:=by rw[hwl];simp
 have hbw:Below w.heap.size w wl:=by
  rw[hwl];exact((Below.refl _ w).alloc (Nat.le_refl _) C0).alloc (by simp) C1
 have e0:wl.heap[w.heap.size]?=some C0:=by rw[hwl];exact qk (z7 rfl)
 have e1:wl.heap[w.heap.size+1]?=some C1:=by rw[hwl];exact z7 (by simp)
 clear hwl
 refine zhp (n:=3) (gf:=246) (lb:= #[.pointer (some ⟨bk,0,none⟩),.pointer (some ⟨bt,0,none⟩)]) rfl (enters_of Tryz.func246 (by kernel_rfl) rfl)
  (zt6 (3 - 1) w0 wl bk bt a m c t k hE hG (hb0.trans (hbw.mono hs0)) hm ((hbw.block _ hbkl).trans hbk) ((hbw.block _ hbtl).trans hbt))
  (fun x=>rfl) (fun k hk=>hk.elim) (fun k hk=>by omega)
  (fun pre W=>Below w.heap.size w W∧W.heap[w.heap.size+1]?=some C1∧∃v,W.heap[w.heap.size]?=some (.cells #[v] 83)∧OwnV2 W (w.heap.size+4) v (zb6 k (pre.map (·.1))))
  (fun _ _ _=>False) ?hI (fun _ _ _ _ h _=>h) ⟨hbw,e1,.slice none 0 0,by rw[e0,hC0],zso ..⟩ ?round ?done ?stop
 case hI=>
  rintro s A B ⟨h4,h1,v,h2,h3⟩ hk;have hs:=h4.size;exact⟨h4.trans (hk.toBelow (fun k hk'=>⟨id,by omega,by omega⟩) (by omega)),(hk.row _ (Array.getElem?_eq_some_iff.1 h1).1 ⟨id,by omega,by omega⟩).trans h1,v,(hk.row _ (Array.getElem?_eq_some_iff.1 h2).1 ⟨id,by omega,by omega⟩).trans h2,h3.same (fun k hk1 hk2=>hk.row k hk2 ⟨id,by omega,by omega⟩)⟩
 case round=>
  rintro pre ⟨i,s1,s2⟩ W ⟨⟨rest,hV⟩,hsl⟩ ⟨h4,h1,y,h2,h3⟩ hsW;obtain⟨⟨a1,n1,z1,e1',-⟩,a2,n2,z2,e2',hE2⟩:=hsl (i,s1,s2) (by simp);simp only at e1' e2' hE2;subst e1' e2';clear hsl;rw[hsz] at hsW ⊢
  have hik:i<k.length:=by
   have:i∈zw k t:=by rw[hV];simp
   exact(zhz.1 this).1
  have hpre:∃d,d≤k.length∧zb6 k (pre.map (·.1))=kt k t d:=by
   rw[List.map_append,List.append_assoc] at hV;exact z41 hV
  obtain⟨d,hd,hfd⟩:=hpre
  have Hst:=hid (show zb6 k ((pre++[((i,.slice a1 n1 z1,.slice a2 n2 z2):WEl)]).map (·.1))=doV gOr (zb6 k (pre.map (·.1))) (za k i).2 from by
   rw[List.map_append];exact zuo _ _ _)
  have hlV:LtV (zb6 k (pre.map (·.1))):=by rw[hfd];exact zks HJ.out.lt t d
  have hfV:VecFits (zb6 k (pre.map (·.1))):=by rw[hfd];exact HJ.out.fits.at_ t d
  have hcV:ckV (zb6 k (pre.map (·.1)))=none:=by rw[hfd];exact zlf (zom HJ.out.lt t d)
  have hfU:VecFits (za k i).2:=HJ.out.fits.vec _ (yb hik);have hcU:ckV (za k i).2=none:=HJ.out.ck _ (yb hik);generalize zb6 k (pre.map (·.1))=V at*;generalize (za k i).2=U at*;clear hsz hbw e0 e1 hC0 hV hE hG hbk hbt hb0 hfd hJ;simp only[zlb];obtain⟨q,hq⟩:∃q:Nat,q=W.heap.size:=⟨_,rfl⟩
  gi_wp2
  refine⟨(Kept.refl _ W).alloc _,fun W2 hk2 hs2=>?_⟩
  try rw[World.size_alloc] at hs2
  have k1:Kept (fun k=>k≠w.heap.size+2+1) W W2:=((Kept.refl _ W).alloc _).trans hk2;have b1:W2.heap[w.heap.size+1]?=some C1:=(k1.row _ (Array.getElem?_eq_some_iff.1 h1).1 (by omega)).trans h1;have b2:W2.heap[w.heap.size]?=some (.cells #[y] 83):=(k1.row _ (Array.getElem?_eq_some_iff.1 h2).1 (by omega)).trans h2;have b4:W2.heap[q]?=some (.cells #[.slice a1 n1 z1,.slice a2 n2 z2] 85):=by rw[hq];exact(hk2.row _ (by simp) (by omega)).trans (z7 rfl)
  have hB3:OwnV2 W2 (w.heap.size+4) y V:=h3.same (fun k hk1 hk2=>k1.row k hk2 (by omega));have B4:=hid (h4.trans (k1.toBelow (n:=w.heap.size) (fun k hk'=>by omega) h4.size));rw[←hq];have hB4:w.heap.size+4≤W2.heap.size:=by omega
  have Hb1:=hid b1;have Hb2:=hid b2;rw[hC1] at b1;have c0:=y7 b1;have c1:=y7 b2;have c2:W2.cell? ⟨q,0,none⟩=some (.slice a1 n1 z1):=zu (i:=0) b4 rfl;have c3:W2.cell? ⟨q,1,none⟩=some (.slice a2 n2 z2):=zu (i:=1) b4 rfl;have HC1:=hid hC1;have hF:=hid (z42 y V U i (.slice a1 n1 z1) a2 n2 z2 _ W2 hB3 hlV (hE2.below (Hb00.out.trans (B4.out.mono hs0))) hfV hfU hcV hcU);clear k1 hk2 hs2 h1 h2 h3 h4 b1 b2 b4 hq hsW hC1 hB3 hE2 hlV hfV hcV hfU hcU
  gi_wp2_with fail
  refine(CallsIn.inRound _ (callsIn_wide.2 hF.out)).mono ?_;rintro e w3 ⟨⟨v,rfl,ho3⟩,hb3⟩;have d2:=(hb3.block _ (by omega)).trans Hb2.out;have d1:=(hb3.block _ (by omega)).trans Hb1.out;have q5:=y7 d2;have q6:=zam d2;have Hd2:=hid d2;have Hd1:=hid d1;have Ho3:=hid ho3;have Hb3:=hid hb3
  obtain⟨av,nv,cv,rfl⟩:∃a n c,v=.slice a n c:=by
   obtain⟨ss,h,-⟩:=ho3;obtain⟨a,c,e⟩:=ks h;exact⟨a,_,c,e⟩
  clear c0 c1 c2 c3 d1 d2 ho3 hb3
  gi_wp2
  refine⟨?_,?_,?_,_,zcj Hd2.out,?_⟩
  · exact((zqh Hb3.out).mono (fun k _ hk=>by omega)).setCell (fun _=>by simp only;omega) _
  · exact(B4.out.trans (Hb3.out.mono (by omega))).setCell (Nat.le_refl _) _
  · exact(Below.heap_setCell _ _ _ _ (by simp)).trans Hd1.out
  · rw[Hst.out];exact(Ho3.out.lower hB4).same (fun k hk1 hk2=>Below.heap_setCell _ _ _ _ (by simp only;omega))
 case done=>
  rintro ps W ⟨hS,-⟩ ⟨h4,h1,y,h2,h3⟩ hK;have q1:=y7 h2
  have hfin:zb6 k (ps.map (·.1))=atK k t:=by
   rw[←hS,←zia];exact zle k t k.length (Nat.le_refl _)
  rw[hfin] at h3;have H3:=hid h3;have H4:=hid h4;clear h1 h2 h3 h4 e0 e1 hS
  gi_wp2
  go_wp2;refine⟨by simp,.inl ⟨_,_,rfl,run_takeDeferred hK,?_⟩⟩;refine⟨_,results_tmp rfl _ _ _,⟨y,rfl,?_⟩,?_⟩
  · exact(H3.out.same (fun k hk1 hk2=>World.putObj_heap_other (by omega))).lower (by omega)
  · exact(Kept.refl (fun k=>k<w.heap.size) W).putObj (fun _ h=>by have h':wl.heap.size<w.heap.size:=h;omega) _ |>.toBelow (fun _ h=>h) H4.out.size |> H4.out.trans
 case stop=>
  rintro c pre W hV h;exact h.elim
theorem z44 (a:Option Addr) (m c t:Nat) (k:Kno) (w:World) (hE:Frags w a m c k) (hJ:Joins k):
 Calls Tryz.prog 160 #[.slice a m c,.int .u64 t] w fun e w'=>(∃y,e=.returned y∧OwnV2 w' w.heap.size y (atK k t))∧Below w.heap.size w w':=by
 have hal:Below w.heap.size w ((w.alloc (.cells #[.slice a m c] 25)).alloc (.cells #[.int .u64 t] 52)):=((Below.refl _ _).alloc (Nat.le_refl _) _).alloc (by simp) _;have hC:=hid (z43 w ((w.alloc (.cells #[.slice a m c] 25)).alloc (.cells #[.int .u64 t] 52)) w.heap.size (w.heap.size+1) a m c t k hE hJ hal (qk (z7 rfl)) (z7 (by simp)));have Hal:=hid hal;clear hE hJ hal;go_enter Tryz.func160,Tryz.ntmps160;go_wp2_with fail;refine(zt5 a m c t _).mono ?_;rintro e w1 ⟨rfl,rfl⟩;go_wp2_with fail;refine hC.out.mono ?_;rintro e w2 ⟨⟨y,rfl,ho⟩,hb⟩;have Ho:=hid ho;have Hb:=hid hb;clear ho hb;go_wp2;go_ret;exact⟨⟨y,rfl,Ho.out.lower Hal.out.size⟩,Hal.out.trans (Hb.out.mono Hal.out.size)⟩
end
section
structure SmallK (k:Kno):Prop where
 len:k.length≤15
 items:∀f∈k,f.1.length≤20
 vec:∀f∈k,f.2.length≤20
 holes:∀f∈k,∀e∈f.2,e.2.2.length≤30
theorem zon (k:Kno):(qd (k.map (·.1))).length≤1+yf k*2:=by
 unfold qd;rw[List.length_cons]
 induction k with
 | nil=>simp[yf]
 | cons f k ih=>
  rw[List.map_cons,List.flatMap_cons,List.length_append,yf];have:=zfl f.1;omega
theorem zlg (k:Kno):(zx k).length≤1+yf k*2:=by
 refine Nat.le_trans (List.length_filter_le _ _) (Nat.le_trans ?_ (zon k));unfold jh;exact zcz (zeq _) (fun y hy=>(zdl _ _).1 hy)
theorem z47 (g:Bool→Bool→Bool) (a b:Vec):(doV g a b).length≤a.length+b.length:=by
 unfold doV;refine Nat.le_trans (List.length_filterMap_le _ _) ?_;unfold zaw;have:=zcz (zeq (a.map (·.1)++b.map (·.1))) (M:=a.map (·.1)++b.map (·.1)) (fun y hy=>(zdl _ _).1 hy);simpa using this
theorem z48 {a b:Vec} (ha:LtV a) (hb:LtV b) (pa:a.Pairwise kd) (pb:b.Pairwise kd) (r:Nat):yi (doV gOr a b) r=opL gOr (yi a r) (yi b r):=by
 obtain⟨c1,c2,c3⟩:=zna (g:=gOr) rfl ha hb pa pb;have ho:=zai (g:=gOr) (zct ha r) (zct hb r) rfl;refine zhh (znr c2 r) ho.1 fun x=>?_
 rw[zhv c2 c1.asc,c3,ho.2.1,zhv ha pa,zhv hb pb]
theorem z49 {v:Vec} (hl:LtV v) {m:Nat} (h:∀e∈v,e.2.2.length≤m) (r:Nat):(yi v r).length≤1+m:=by
 unfold yi;split
 · rename_i e he;have hm:=List.mem_of_find?_eq_some he;have:=znc (hl e hm).holes (hl e hm).max;have:=h e hm;omega
 · simp
theorem z5a {v:Vec} (ha:v.Pairwise kd) {e:Ent} (he:e∈v):yi v e.1=qz e:=by
 unfold yi
 cases hf:v.find? (fun f=>decide (f.1=e.1)) with
 | none=>exact absurd (decide_eq_true rfl) (List.find?_eq_none.1 hf e he)
 | some f=>
  have h1:=List.mem_of_find?_eq_some hf;have h2:f.1=e.1:=by have:=List.find?_some hf;exact of_decide_eq_true this
  rw[zj2 ha h1 he (by omega)]
theorem zup {k:Kno} (hk:LtK k) (hs:SmallK k) (x:Nat):∀d,d≤k.length→(kt k x d).length≤20*d∧∀r,(yi (kt k x d) r).length≤31*d
 | 0,_=>⟨by simp[zns],fun r=>by simp[zns,yi]⟩
 | d+1,h=>by
   obtain⟨h1,h2⟩:=zup hk hs x d (by omega);rw[zkr (by omega)];have hm:=yb (k:=k) (i:=d) (by omega);split
   · have hc:=zom hk x d;have hl:=zks hk x d;refine⟨?_,fun r=>?_⟩
     · have:=z47 gOr (kt k x d) (za k d).2;have:=hs.vec _ hm;omega
     · rw[z48 hl (hk _ hm).vec hc.asc (hk _ hm).asc];have a1:=zj8 (zct hl r) (zct (hk _ hm).vec r);have a2:=z49 (hk _ hm).vec (hs.holes _ hm) r;have:=h2 r;omega
   · exact⟨by omega,fun r=>by have:=h2 r;omega⟩
theorem z5b {v:Vec} (hc:CanV v) (hl:LtV v) (h1:v.length≤300) (h2:∀r,(yi v r).length≤499):VecFits v:=by
 refine⟨h1,fun e he=>?_⟩;have h3:=z0r (hl e he) (hc.ent e he);unfold zbo at h3;have h4:=z0t (zes (hl e he)).2.2 h3;have h5:=h2 e.1;rw[z5a hc.asc he] at h5;omega
theorem zuq (k:Kno) (x d:Nat):kt k x d=kt k x (min d k.length):=by
 unfold kt;rw[List.take_eq_take_min]
theorem zlh {k:Kno} (hk:LtK k) (hs:SmallK k):KnoFits k:=by
 refine⟨by have:=hs.len;omega,fun f hf=>by have:=hs.items f hf;omega,fun f hf=>⟨by have:=hs.vec f hf;omega,fun e he=>by have:=hs.holes f hf e he;omega⟩,fun x d=>?_⟩;rw[zuq];obtain⟨h1,h2⟩:=zup hk hs x (min d k.length) (Nat.min_le_right ..);have:=hs.len;have hm:min d k.length≤15:=Nat.le_trans (Nat.min_le_right ..) hs.len;exact z5b (zom hk x _) (zks hk x _) (by omega) (fun r=>by have:=h2 r;omega)
theorem zur {k:Kno} (hk:LtK k) (hs:SmallK k) (hc:ckF k=none):Joins k:=
 ⟨zlh hk hs,hk,fun f hf=>((zez.1 hc) f hf).2,fun f hf=>((zez.1 hc) f hf).1⟩
theorem zli {k:Kno} (h:∀f∈k,zq f.1∧LtV f.2) (hc:ckF k=none):LtK k:=fun f hf=>⟨(h f hf).1,(h f hf).2,(zkh.1 ((zez.1 hc) f hf).2).1⟩
theorem z5c {u v:Vec} (hv:LtV v) (cv:CanV v) (h:u=[]∨u=v):doV gOr u v=v:=by
 have hu:LtV u∧u.Pairwise kd:=by
  rcases h with rfl | rfl
  · exact⟨(fun e he=>by cases he),List.Pairwise.nil⟩
  · exact⟨hv,cv.asc⟩
 obtain⟨c1,c2,c3⟩:=zna (g:=gOr) rfl hu.1 hv hu.2 cv.asc;refine zm1 c1 cv fun r c=>?_
 rw[c3];rcases h with rfl | rfl
 · have:ju ([]:Vec) r c=false:=by
    rw[←Bool.not_eq_true];intro h;exact zno h rfl
   rw[this];simp[gOr]
 · simp[gOr]
theorem zoo {c:Kno} (hk:LtK c) (hc:CanK c) (x:Nat):∀d,d≤c.length→((∀j,j<d→mem (za c j).1 x=false)∧kt c x d=[])∨∃j,j<d∧mem (za c j).1 x=true∧kt c x d=(za c j).2
 | 0,_=>.inl ⟨fun j h=>by omega,zns _ _⟩
 | d+1,h=>by
   have hm:=yb (k:=c) (i:=d) (by omega);rw[zkr (by omega)];by_cases hx:mem (za c d).1 x=true
   · rw[if_pos hx];refine .inr ⟨d,by omega,hx,z5c (hk _ hm).vec (hc.vec _ hm).1 ?_⟩;rcases zoo hk hc x d (by omega) with ⟨-,h2⟩ | ⟨j,hj,h1,h2⟩
     · exact .inl h2
     · have:=hc.apart _ (yb (show j<c.length by omega)) _ hm x h1 hx;rw[h2,this];exact .inr rfl
   · rw[if_neg hx];rcases zoo hk hc x d (by omega) with ⟨h1,h2⟩ | ⟨j,hj,h1,h2⟩
     · refine .inl ⟨fun j hj=>?_,h2⟩;rcases Nat.lt_or_ge j d with h3 | h3
       · exact h1 j h3
       · rw[show j=d by omega];simpa using hx
     · exact .inr ⟨j,by omega,h1,h2⟩
theorem zus {c:Kno} (hk:LtK c) (hc:CanK c) (h1:c.length≤500) (h2:∀f∈c,f.1.length≤500) (h3:∀f∈c,VecFits f.2):KnoFits c:=by
 refine⟨h1,h2,h3,fun x d=>?_⟩;rw[zuq];rcases zoo hk hc x (min d c.length) (Nat.min_le_right ..) with ⟨-,h⟩ | ⟨j,hj,-,h⟩
 · rw[h];exact⟨by simp,fun e he=>by cases he⟩
 · rw[h];have:min d c.length≤c.length:=Nat.min_le_right ..;exact h3 _ (yb (by omega))
theorem z5d (k:Kno):yf (qt k)=(jz k).length:=by
 have:∀l:List Iv,yf (l.map fun s=>([s],atK k s.1))=l.length:=fun l=>by
  induction l with
  | nil=>rfl
  | cons s l ih=>rw[List.map_cons,yf,ih,List.length_cons];simp;omega
 exact this _
theorem zut {k:Kno} (hk:LtK k) (hf:KnoFits k) {m:Nat} (hi:yf k≤m):(zh k).length≤1+m*2∧yf (zh k)≤1+m*2∧∀f∈zh k,VecFits f.2:=by
 have hp:(jz k).length≤1+m*2:=by
  have:=zkw k;have:=zon k;omega
 have h1:=zid (k:=qt k) (zkl hk) (qt k).length;rw[zkv] at h1;rw[z5d] at h1;have h2:(qt k).length=(jz k).length:=by unfold qt;rw[List.length_map]
 refine⟨by unfold zh;omega,by unfold zh;omega,fun f hf'=>?_⟩
 have h3:=zny (k:=qt k) (fun f hf=>by
  unfold qt at hf;obtain⟨s,hs,rfl⟩:=List.mem_map.1 hf;obtain⟨c1,c2,_⟩:=zc1 hk s.1;simp only;rw[zj9 c2 c1,←zia];exact KnoFits.at_ (by assumption) _ _) (qt k).length
 rw[zkv] at h3;exact h3 f hf'
theorem zuu {c:Kno} (hk:LtK c) (hc:CanK c) (hf:KnoFits c):Joins c:=
 ⟨hf,hk,fun f h=>zlf (hc.vec f h).1,fun f h=>(hc.items f h).1⟩
theorem zuv {k:Kno} (hk:LtK k) (hs:SmallK k) (hi:yf k≤240):Joins (zh k)∧yf (zh k)≤481∧(zh k).length≤481:=by
 obtain⟨h1,h2,h3⟩:=zut hk (zlh hk hs) hi;obtain⟨c1,c2,-⟩:=zh6 hk;refine⟨zuu c2 c1 (zus c2 c1 (by omega) (fun f hf=>by have:=zc8 hf;omega) h3),by omega,by omega⟩
end
end Go.Proofs.YtdnjfnofjaoajaaGreatDoor
