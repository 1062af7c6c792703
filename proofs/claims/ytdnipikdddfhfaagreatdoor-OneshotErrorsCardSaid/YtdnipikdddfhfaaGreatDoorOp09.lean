/- Part 09. -/
import Derived.Test.YtdnipikdddfhfaaGreatDoorOp08
set_option linter.unusedVariables false
set_option maxHeartbeats 16000000
namespace Go.Proofs.YtdnipikdddfhfaaGreatDoor
open Lib (hid)
section
open Go.RowKit Go.Shelf
attribute [local go_sem] Oper.semAt_some zer
theorem KeptT.refl (base:Nat) (T:TypeId→Prop) (A:World):KeptT base T A A:=⟨rfl,rfl,rfl,Nat.le_refl _,fun _ _ _=>rfl⟩
theorem KeptT.trans {base:Nat} {T:TypeId→Prop} {A B C:World} (h:KeptT base T A B) (k:KeptT base T B C):KeptT base T A C:=
 ⟨k.os.trans h.os,k.tape.trans h.tape,k.output.trans h.output,Nat.le_trans h.size k.size,fun i hi hp=>(k.row i (Nat.lt_of_lt_of_le hi h.size) (hp.imp id fun ⟨C,U,fr,hT,hr⟩=>⟨C,U,fr,hT,(h.row i hi (.inr ⟨C,U,fr,hT,hr⟩)).trans hr⟩)).trans (h.row i hi hp)⟩
theorem KeptT.of {base:Nat} {T:TypeId→Prop} {q:Nat→Prop} {A B:World} (h:Kept q A B) (s:Steady base T A B):KeptT base T A B:=⟨h.os,h.tape,h.output,h.size,s.row⟩
set_option maxRecDepth 20000 in
theorem zki (a:Option Addr) (n c:Nat) (v:Vec) (w:World) (hE:Ents w a n c v) (hn:n≤1000000000000) (hN:(zi v).length≤1000000000000):
 Calls Tryz.prog 191 #[.slice a n c] w fun e w'=>
  (∃y,e=.returned y∧w'.ownsRow w.heap.size 43 1 y (zi v).length (z7 (zi v)))∧Below w.heap.size w w':=by
 have HE:=hid hE;have HN:=hid hN;clear hE hN;refine(callsIn_wide (n:=3)).1 ?_;refine callsIn_of_wp_marks Tryz.func191 rfl trivial ?_ rfl;simp only[Tryz.ntmps191,List.size_toArray,List.length_cons,List.length_nil,Nat.reduceAdd,Nat.reduceSub,Array.replicate_succ,Array.replicate_zero,List.push_toArray,List.append_toArray,List.nil_append,List.cons_append];refine wpIn_wide.2 ?_;go_wp2_with (go_at_call 233;refine(zq3 _ _ _ _).mono ?_;rintro e w1 ⟨rfl,rfl⟩);refine(wpIn_wide (n:=3)).1 ?_;obtain⟨C0,hC0⟩:∃C0:Obj,C0=.cells #[.slice none 0 0] 41:=⟨_,rfl⟩;obtain⟨C1,hC1⟩:∃C1:Obj,C1=.cells #[.slice a n c] 95:=⟨_,rfl⟩;rw[←hC0,←hC1];have hs1:(w.alloc C0).heap.size=w.heap.size+1:=by simp
 obtain⟨wl,hwl⟩:∃wl:World,wl=(w.alloc C0).alloc C1:=⟨_,rfl⟩;rw[←hwl]
 try rw[hs1]
 have hsz:wl.heap.size=w.heap.size+2:=by rw[hwl];simp
 have hbw:Below w.heap.size w wl:=by
  rw[hwl];exact((Below.refl _ w).alloc (Nat.le_refl _) C0).alloc (by simp) C1
 have e0:wl.heap[w.heap.size]?=some C0:=by rw[hwl];exact zb8 (zaa rfl)
 have e1:wl.heap[w.heap.size+1]?=some C1:=by rw[hwl];exact zaa (by simp)
 clear hwl
 refine zqf (n:=3) (gf:=262) (lb:= #[.pointer (some ⟨w.heap.size+1,0,none⟩)]) rfl (enters_of Tryz.func262 (by kernel_rfl) rfl)
  (zq4 (3 - 1) w wl (w.heap.size+1) a n c v HE.out hbw (by rw[e1,hC1]) hn)
  (fun x=>rfl) (fun k hk=>hk.elim) ?hput
  (fun pre W=>Below w.heap.size w W∧∃v,W.heap[w.heap.size]?=some (.cells #[v] 41)∧W.ownsRow (w.heap.size+4) 43 1 v pre.length (z7 pre))
  (fun _ _ _=>False) ?hI (fun _ _ _ _ h _=>h) ⟨hbw,.slice none 0 0,by rw[e0,hC0],World.ownsRow_nil ..⟩ ?round ?done ?stop
 case hput=>
  intro A B r o hA hk;rw[hsz] at hA ⊢;refine⟨hk.os,hk.tape,hk.output,by simpa using hk.size,fun k hk1 hp=>?_⟩;refine(World.putObj_heap_other ?_).trans (hk.row k hk1 hp);rintro rfl;rcases hp with h | ⟨C,U,fr,_,h⟩
  · omega
  · rw[hA] at h;cases h
 case hI=>
  rintro s A B ⟨h4,v,h2,h3⟩ hk;have hs:=h4.size;exact⟨h4.trans (hk.toBelow (fun k hk'=>⟨id,by omega,by omega⟩) (by omega)),v,(hk.row _ (Array.getElem?_eq_some_iff.1 h2).1 ⟨id,by omega,by omega⟩).trans h2,zaw h3 (fun k hk1 hk2=>hk.row k hk2 ⟨id,by omega,by omega⟩)⟩
 case round=>
  rintro pre x W ⟨rest,hV⟩ ⟨h4,y,h2,h3⟩ hsW ⟨rl,hrl⟩;rw[hsz] at hsW hrl ⊢
  have hlen:pre.length+1≤1000000000000:=by
   have:=HN.out;rw[hV,List.length_append,List.length_append,List.length_singleton] at this;omega
  clear hsz hbw e0 e1 hC0 hC1 hV
  gi_wp2
  refine⟨Kept.refl _ W,fun W2 hk2 hs2=>?_⟩;have b2:W2.heap[w.heap.size]?=some (.cells #[y] 41):=(hk2.row _ (Array.getElem?_eq_some_iff.1 h2).1 (by omega)).trans h2;have B3:=hid (zaw h3 (fun k hk1 hk2'=>hk2.row k hk2' (by omega)));have B4:=hid (h4.trans (hk2.toBelow (n:=w.heap.size) (fun k hk'=>by omega) h4.size))
  have hst:Steady w.heap.size zd5 W W2:=⟨hk2.size,fun k hk hp=>hk2.row k hk (by
   rintro rfl;rcases hp with h | ⟨C,U,fr,_,h⟩
   · omega
   · rw[hrl] at h;cases h)⟩
  have K2:=hid (And.intro hk2 hst);have hB4:w.heap.size+4≤W2.heap.size:=by omega
  clear hk2 h2 h3 h4 hs2 hst hrl;have hB2:=B4.out.size;obtain⟨ao,co,rfl⟩:=qv B3.out;have q1:=zao b2;have q2:=zgr b2;have Hb2:=hid b2;clear b2;obtain⟨v',w5,hr,ho,hgr⟩:=ze6 (w.heap.size+4) (.slice ao pre.length co) pre.length pre (B3.out.alloc (.cells #[.int .u64 x] 43)) (some ⟨W2.heap.size,0,none⟩) 1 1 [x] (kx (qi _ _ _ rfl) rfl rfl) (by omega) (by simp;omega);obtain⟨g',cap',rfl⟩:=ownsRow_succ ho;have hne:some w.heap.size≠(.slice ao pre.length co:Value).ownBlock:=fun e=>by have:=(B3.out.lt _ e.symm).1;omega
  have e5:w5.heap[w.heap.size]?=some (.cells #[.slice ao pre.length co] 41):=(hgr.block _ (by simp;omega) hne).trans (zb8 Hb2.out);have q5:=zao e5;have q6:=zgr e5;have He5:=hid e5;have Ho:=hid ho;have Hgr:=hid hgr;clear e5 ho hgr hne
  gi_wp2_with (gi_at_builtin;refine zoi rfl _ _ 41 rfl _ _ rfl rfl _ _ hr ?_)
  refine⟨?_,⟨?_,_,zjb He5.out,?_⟩,?_⟩
  · exact(((Kept.refl _ W2).alloc _).grown Hgr.out (fun k hk _=>by have:=(B3.out.lt k hk).1;omega)).setCell (fun _=>by simp only;omega) _
  · exact((B4.out.alloc B4.out.size _).grown Hgr.out (by simp;omega) (fun k hk=>by have:=(B3.out.lt k hk).1;omega)).setCell (by simp only;omega) _
  · have h:=zaw Ho.out (w':=w5.setCell ⟨w.heap.size,0,none⟩ (.slice (some ⟨g',0,none⟩) (pre.length+1) cap')) (fun k hk1 hk2=>Below.heap_setCell _ _ _ _ (by simp only;omega));rw[List.length_append];exact h
  · have s1:Steady w.heap.size zd5 W2 (W2.alloc (.cells #[.int .u64 x] 43)):=.of_below ((Below.refl _ _).alloc (Nat.le_refl _) _);have s2:Steady w.heap.size zd5 (W2.alloc (.cells #[.int .u64 x] 43)) w5:=Steady.grown (vw (b:=w.heap.size) (B3.out.alloc _) (by omega)) Hgr.out (by rintro(h | h | h) <;> cases h);have s3:Steady w.heap.size zd5 w5 (w5.setCell ⟨w.heap.size,0,none⟩ (.slice (some ⟨g',0,none⟩) (pre.length+1) cap')):=Steady.setCell (a:=⟨w.heap.size,0,none⟩) He5.out (Nat.le_refl _) (by rintro(h | h | h) <;> cases h);refine KeptT.of (q:=fun _=>False) (K2.out.1.mono (fun _ _ h=>h.elim) |>.trans ?_) (((K2.out.2.trans s1).trans s2).trans s3);exact(((Kept.refl _ W2).alloc _).grown Hgr.out (fun k hk _ h=>h)).setCell (fun _ h=>h) _
 case done=>
  rintro ps W rfl ⟨h4,y,h2,h3⟩ hK;have q1:=zao h2;have H3:=hid h3;have H4:=hid h4;clear h2 h3 h4 e0 e1
  gi_wp2
  go_wp2;refine⟨by simp,.inl ⟨_,_,rfl,run_takeDeferred hK,?_⟩⟩;refine⟨_,results_tmp rfl _ _ _,⟨y,rfl,?_⟩,?_⟩
  · refine vw (zaw H3.out (fun k hk1 hk2=>World.putObj_heap_other (by omega))) (by omega)
  · exact(Kept.refl (fun k=>k<w.heap.size) W).putObj (fun _ h=>by have h':wl.heap.size<w.heap.size:=h;omega) _ |>.toBelow (fun _ h=>h) H4.out.size |> H4.out.trans
 case stop=>
  rintro c pre W hV h;exact h.elim
end
section
def zas (l:List Int) (k:Nat):Int:=l.getD k 0
theorem zfk {l:List Int} {k:Nat} (h:k<l.length):zas l k=l[k]:=by simp[zas,h]
def yt (l:List Vec) (k:Nat):Vec:=l.getD k []
theorem zbd {l:List Vec} {k:Nat} (h:k<l.length):yt l k=l[k]:=by simp[yt,h]
theorem zg9 {l:List Vec} {k:Nat} (h:k<l.length):yt l k∈l:=by rw[zbd h];exact List.getElem_mem h
def itB (l:List Iv) (ix:List Int) (i:Nat):Nat→List Iv
 | 0=>[]
 | d+1=>itB l ix i d++if zas ix d=(i:Int) then [zc l d] else []
def zc5 (vs:List Vec) (l:List Iv) (ix:List Int) (d:Nat):Kno:=(List.range vs.length).map fun i=>(itB l ix i d,yt vs i)
def zfl (vs:List Vec) (l:List Iv) (ix:List Int):Kno:=zc5 vs l ix l.length
theorem zrr {k:Kno} (hc:CanK k) {i j:Nat} (hi:i<k.length) (hj:j<k.length) (e:zd k i=zd k j):i=j:=by
 have one:∀{i j:Nat},i<j→j<k.length→zd k i=zd k j→False:=fun {i j} hij hj e=>by
  have hl:=List.pairwise_iff_getElem.1 hc.asc i j (by omega) hj hij;rw[←yo (by omega),←yo hj,e] at hl;unfold zdv at hl;rw[zi9] at hl;cases hl
 rcases Nat.lt_trichotomy i j with h | h | h
 · exact(one h hj e).elim
 · exact h
 · exact(one h hi e.symm).elim
def zha (p q:Seg):Prop:=(p.1.2<q.1.1∧(p.2=q.2→p.1.2+1<q.1.1))∨(q.1.2<p.1.1∧(p.2=q.2→q.1.2+1<p.1.1))
theorem zrs {p q:Seg} (h:zha p q):zha q p:=by
 rcases h with ⟨h1,h2⟩ | ⟨h1,h2⟩
 · exact .inr ⟨h1,fun e=>h2 e.symm⟩
 · exact .inl ⟨h1,fun e=>h2 e.symm⟩
theorem zkj {l:List Iv} (h:Good l):l.Pairwise fun s t=>s.2+1<t.1:=by
 rw[List.pairwise_iff_getElem];intro i j hi hj hij;have:=zc0 h hij hj;rwa [qg hi,qg hj] at this
theorem zrt {k:Kno} (hc:CanK k) {i j:Nat} (hi:i<k.length) (hj:j<k.length) (hij:i≠j) {s t:Iv} (hs:s∈(zd k i).1) (ht:t∈(zd k j).1):s.2<t.1∨t.2<s.1:=by
 have h1:=(hc.items _ (j7 hi)).1.ok s hs;have h2:=(hc.items _ (j7 hj)).1.ok t ht;rcases Nat.lt_or_ge s.2 t.1 with h | h
 · exact .inl h
 rcases Nat.lt_or_ge t.2 s.1 with h' | h'
 · exact .inr h'
 exfalso;refine hij (zrr hc hi hj (hc.apart _ (j7 hi) _ (j7 hj) (max s.1 t.1) (mem_iff.2 ⟨s,hs,?_,?_⟩) (mem_iff.2 ⟨t,ht,?_,?_⟩))) <;> omega
theorem zkk {k:Kno} (hc:CanK k):∀d,d≤k.length→(kh k d).Pairwise zha
 | 0,_=>List.Pairwise.nil
 | d+1,h=>by
   obtain⟨h1,h2,h3⟩:=za2 k d (by omega);obtain⟨-,g2⟩:=zg6 h1 d (zd k d).1;have e:kh k (d+1)=zaq (kh k d) (zd k d).1 d:=rfl;rw[e];refine(List.Perm.pairwise_iff (fun {x y} h=>zrs h) g2).2 (List.pairwise_append.2 ⟨zkk hc d (by omega),?_,fun p hp q hq=>?_⟩)
   · refine List.pairwise_map.2 ((zkj (hc.items _ (j7 h)).1).imp fun {s t} hst=>.inl ⟨?_,fun _=>hst⟩);simp only;omega
   · obtain⟨t,ht,rfl⟩:=List.mem_map.1 hq;obtain⟨p1,p2⟩:=h3 p hp;have hne:p.2≠d:=by omega
     rcases zrt hc (by omega:p.2<k.length) h hne p2 ht with hh | hh
     · exact .inl ⟨hh,fun e=>absurd e hne⟩
     · exact .inr ⟨hh,fun e=>absurd e hne⟩
theorem zkl {k:Kno} (hc:CanK k):(zf k).Pairwise fun p q=>p.1.2<q.1.1∧(p.2=q.2→p.1.2+1<q.1.1):=by
 obtain⟨h1,h2,h3⟩:=za2 k k.length (Nat.le_refl _);have h4:=zkk hc k.length (Nat.le_refl _);have ok:∀p∈zf k,p.1.1≤p.1.2:=fun p hp=>(hc.items _ (j7 (h3 p hp).1)).1.ok _ (h3 p hp).2
 rw[List.pairwise_iff_getElem] at h1 h4 ⊢;intro i j hi hj hij;have e1:=h1 i j hi hj hij;have o1:=ok _ (List.getElem_mem hi);have o2:=ok _ (List.getElem_mem hj);unfold zf at o1 o2 ⊢;rcases h4 i j hi hj hij with h | h
 · exact h
 · exact absurd h.1 (by omega)
def zch (k:Kno):List Iv:=(zf k).map (·.1)
def zc6 (k:Kno):List Int:=(zf k).map fun p=>(p.2:Int)
theorem zhb (k:Kno):(zch k).length=(zf k).length:=by simp[zch]
theorem zru (k:Kno):(zc6 k).length=(zf k).length:=by simp[zc6]
theorem zfm {k:Kno} {i:Nat} (h:i<(zf k).length):zc (zch k) i=(zf k)[i].1:=by rw[qg (by rw[zhb];exact h)];simp[zch]
theorem zrv {k:Kno} {i:Nat} (h:i<(zf k).length):zas (zc6 k) i=((zf k)[i].2:Int):=by rw[zfk (by rw[zru];exact h)];simp[zc6]
theorem zkm (k:Kno) (i:Nat):∀d,d≤(zf k).length→itB (zch k) (zc6 k) i d=(((zf k).take d).filter fun p=>decide (p.2=i)).map (·.1)
 | 0,_=>by simp[itB]
 | d+1,h=>by
   rw[itB,zkm k i d (by omega),zfm h,zrv h,List.take_succ_eq_append_getElem h,List.filter_append,List.map_append];congr 1;by_cases e:(zf k)[d].2=i
   · rw[if_pos (by omega),List.filter_cons_of_pos (by simpa using e)];rfl
   · rw[if_neg (by omega),List.filter_cons_of_neg (by simpa using e)];rfl
theorem zkn (k:Kno) (i:Nat):∀d,d≤k.length→(((kh k d).filter fun p=>decide (p.2=i)).map (·.1)).Perm (if i<d then (zd k i).1 else [])
 | 0,_=>by simp[kh]
 | d+1,h=>by
   obtain⟨h1,h2,h3⟩:=za2 k d (by omega);obtain⟨-,g2⟩:=zg6 h1 d (zd k d).1;have e:kh k (d+1)=zaq (kh k d) (zd k d).1 d:=rfl;rw[e];refine((g2.filter _).map _).trans ?_;rw[List.filter_append,List.map_append];have ih:=zkn k i d (by omega);refine(ih.append_right _).trans ?_;by_cases hd:d=i
   · subst hd;rw[if_neg (by omega),if_pos (by omega),List.filter_eq_self.2 (fun a ha=>by obtain⟨s,_,rfl⟩:=List.mem_map.1 ha;simp),List.map_map];simp[Function.comp_def]
   · rw[List.filter_eq_nil_iff.2 (fun a ha=>by obtain⟨s,_,rfl⟩:=List.mem_map.1 ha;simpa using hd)];by_cases hi:i<d
     · rw[if_pos hi,if_pos (by omega)];simp
     · rw[if_neg hi,if_neg (by omega)];simp
theorem zrw {k:Kno} (hc:CanK k):zfl (k.map (·.2)) (zch k) (zc6 k)=k:=by
 obtain⟨h1,h2,h3⟩:=za2 k k.length (Nat.le_refl _);unfold zfl zc5;refine List.ext_getElem (by simp) fun i hi hi'=>?_
 rw[List.getElem_map,List.getElem_range,zhb,zkm k i _ (Nat.le_refl _),List.take_length];have hp:=zkn k i k.length (Nat.le_refl _);rw[if_pos hi'] at hp;have hgood:=(hc.items _ (j7 hi')).1
 have e:((zf k).filter fun p=>decide (p.2=i)).map (·.1)=(zd k i).1:=by
  refine zg7 (f:=(·.1)) hp (List.pairwise_map.2 (h1.filter _)) ?_ fun s hs t ht e=>?_
  · refine(zkj hgood).imp_of_mem fun {s t} hs ht hst=>?_
    have:=hgood.ok s hs;omega
  · exact zke hgood (hp.mem_iff.1 hs) (hp.mem_iff.1 ht) e
 rw[e,zbd (by simpa using hi'),List.getElem_map,yo hi']
theorem zko (vs:List Vec) (l:List Iv) (ix:List Int) (d:Nat):(zc5 vs l ix d).length=vs.length:=by simp[zc5]
theorem zrx {vs:List Vec} {l:List Iv} {ix:List Int} {d i:Nat} (h:i<vs.length):zd (zc5 vs l ix d) i=(itB l ix i d,yt vs i):=by
 rw[yo (by rw[zko];exact h)];simp[zc5]
theorem zhc (l:List Iv) (ix:List Int) (i:Nat):∀d,(itB l ix i d).length≤d
 | 0=>by simp[itB]
 | d+1=>by
   have:=zhc l ix i d;rw[itB,List.length_append];split <;> simp <;> omega
theorem zkp {l:List Iv} {ix:List Int} {i:Nat} {s:Iv}:∀{d},d≤l.length→s∈itB l ix i d→s∈l
 | 0,_,h=>by cases h
 | d+1,hd,h=>by
   rw[itB] at h;rcases List.mem_append.1 h with h | h
   · exact zkp (by omega) h
   · split at h
     · rw[List.mem_singleton] at h;rw[h];exact zax hd
     · cases h
end
section
open Go.RowKit
theorem zhd {c:Nat} (a:Nat) (h:c≠0):zcc (c:Int) (a:Int)=some ((c:Int),some (a:Int)):=by
 unfold zcc;rw[if_neg (by omega)]
theorem zry (r:Nat) (e:Ent) (s:Value) (w:World):Calls Tryz.prog 171 #[.int .u64 r,ze3 e s] w fun x w'=>x=.returned (.int .i64 (Lib.compareInt (e.1:Int) (r:Int)))∧Below w.heap.size w w':=by
 obtain⟨er,em,eh⟩:=e;obtain⟨q0,q1,q2⟩:=zdz w (.int .u64 er) (.int .u64 em) s 93 _ (Below.refl _ _);have Hal:=hid ((Below.refl w.heap.size w).alloc (Nat.le_refl _) (.cells #[.int .u64 er,.int .u64 em,s] 93));go_enter Tryz.func171,Tryz.ntmps171;go_wp2_with fail;refine(zif er r _).mono ?_;rintro e w1 ⟨rfl,rfl⟩;go_wp2;go_ret;exact⟨rfl,Hal.out⟩
set_option maxRecDepth 20000 in
theorem zrz (a:Option Addr) (n cap:Nat) (v:Vec) (w:World) (hE:Ents w a n cap v) (hD:Door w):
 Calls Tryz.prog 125 #[.slice a n cap] w fun x w'=>x=.returned (zn (vq (ckV v)))∧Below w.heap.size w w':=by
 have HE:=hid hE;have HD:=hid hD;have Hl:=hid hE.len;have hm:n≤9223372036854775807:=Nat.le_trans hE.room hE.most;have Hck:=hid (show ckV v=ju (zd1 v) v.length from rfl);clear hE hD;go_enter Tryz.func125,Tryz.ntmps125;go_wp2;go_loopw [3,4,5,8] (fun _ _ _ i wr=>∃k:Nat,k≤n∧i=.int .i64 k∧Below w.heap.size w wr∧Hid (∀j,j<k→zd1 v j=none)) (fun _ _ _ i _=>n - (intOf i).toNat)
 case atStart=>exact⟨0,by omega,rfl,Below.refl _ _,fun j h=>by omega⟩
 case round=>
  obtain⟨k,hk,rfl,hb,ht⟩:=hrel;have Hb:=hid hb;clear hb;by_cases hkn:k<n
  · have hkv:k<v.length:=by rw[Hl.out];exact hkn
    have HEr:=hid (HE.out.below Hb.out);obtain⟨bb,oo,rfl⟩:=HEr.out.some (by omega);obtain⟨x,m,c,hq⟩:=HEr.out.fix hkn;have Hat:=hid (show zd1 v k=match ckE (zg v k) with | some x=>some (x.1,k) | none=>if 0<k∧(zg v k).1≤(zg v (k - 1)).1 then some (3,k) else none from rfl);have Hp:=hid (show 0<k→∀w',Below wr.heap.size wr w'→w'.cell? ⟨bb,oo+(k - 1)*3,none⟩=some (.int .u64 (((zg v (k - 1)).1:Nat):Int)) from fun h0 w' h=>(HEr.out.at (k:=k - 1) (by omega) w' h).1);generalize zg v k=e at*;generalize zg v (k - 1)=p at*;have h0:(0:Int)≤k:=by omega
    have h04:(k:Int)<(n:Int):=by omega
    obtain⟨q1,q2,q3,-⟩:=hq _ (Below.refl _ _);have hal:Below wr.heap.size wr (wr.alloc (.cells #[.int .u64 e.1,.int .u64 e.2.1,.slice x m c] 93)):=(Below.refl _ _).alloc (Nat.le_refl _) _;have HX:=hid (zdz wr (.int .u64 e.1) (.int .u64 e.2.1) (.slice x m c) 93);have hDa:=HD.out.below (Nat.le_refl _) (Hb.out.trans (hal.mono Hb.out.size));have hC:=hid (zq7 e x m c (wr.alloc (.cells #[.int .u64 e.1,.int .u64 e.2.1,.slice x m c] 93)) (hq _ hal).2.2.2 hDa);have Hal:=hid hal;have HalW:=hid (Hb.out.trans (hal.mono Hb.out.size));clear hq hal hDa;obtain⟨er,em,eh⟩:=e;obtain⟨pr,pm,ph⟩:=p;simp only at q1 q2 q3 Hp Hat hC HX Hal HalW
    cases h:ckE (er,em,eh) with
    | some y=>
     obtain⟨cd,ci⟩:=y;rw[h] at Hat hC;simp only[vq,zn] at Hat hC;have hc0:=zjp h;simp only at hc0;have Hr:=hid (zbr hkv ht.out Hat.out);clear h;go_wp2_with fail;refine hC.out.mono ?_;rintro z w1 ⟨rfl,hb1⟩;have Hb1:=hid (HalW.out.trans (hb1.mono HalW.out.size));clear hb1;go_wp2_with fail;refine(zaz (some ((cd:Int),some (ci:Int))) _ (HD.out.below (Nat.le_refl _) Hb1.out)).mono ?_;rintro z w2 ⟨rfl,hb2⟩;have Hb2:=hid (Hb1.out.trans (hb2.mono Hb1.out.size));clear hb2;simp only[kw];go_wp2_with fail;refine(je cd k _).mono ?_;rintro z w3 ⟨rfl,rfl⟩;go_wp2;go_ret
     exact⟨by rw[Hck.out,Hr.out];show _=Ending.returned (zn (some ((cd:Int),some (k:Int))));rw[←zhd k hc0];rfl,Hb2.out⟩
    | none=>
     rw[h] at Hat hC;simp only[vq,zn] at Hat hC;clear h;go_wp2_with fail;refine hC.out.mono ?_;rintro z w1 ⟨rfl,hb1⟩;have Hb1:=hid hb1;have Hw1:=hid (HalW.out.trans (hb1.mono HalW.out.size));clear hb1;by_cases hk0:0<k
     · have hg:decide (0<(k:Int))=true:=by rw[decide_eq_true_iff];omega
       have hsub:IntKind.i64.wrap ((k:Int) - 1)=((k - 1:Nat):Int):=by rw[IntKind.wrap_i64];omega
       have h01:(0:Int)≤((k - 1:Nat):Int):=by omega
       have h03:((k - 1:Nat):Int)<(n:Int):=by omega
       have HX1:=hid (fun w' (h:Below w1.heap.size w1 w')=>HX.out w' (Hb1.out.trans (h.mono Hb1.out.size)));have HP1:=hid (fun w' (h:Below w1.heap.size w1 w')=>Hp.out hk0 w' (Hal.out.trans ((Hb1.out.trans (h.mono Hb1.out.size)).mono Hal.out.size)));have hK:=hid (fun w'=>zry pr (er,em,eh) (.slice x m c) w');generalize k - 1=k1 at*;by_cases hle:er≤pr
       · have Hr:=hid (zbr hkv ht.out (Hat.out.trans (if_pos ⟨hk0,hle⟩)))
         have hci:decide (Lib.compareInt (er:Int) (pr:Int)≤0)=true:=by
          unfold Lib.compareInt;rw[decide_eq_true_iff];split
          · omega
          · rw[if_neg (by omega)];omega
         generalize Lib.compareInt (er:Int) (pr:Int)=ci at*;clear hle;go_wp2_with fail;go_cut [33] (fun t wc=>t=.bool true∧Hid (Below w1.heap.size w1 wc))
         case first=>
          refine vv (by kernel_rfl) (by kernel_rfl) ?_
          repeat (go_big_quiet_step ((intro hw;first
           | rfl
           | (have q0:=HX1.out _ hw
              have q1:=q0.1;have q2:=q0.2.1;have q3:=q0.2.2;have q4:=HP1.out _ hw;clear q0
              first
              | (go_at_call 171;exact vu hw (hK.out _))
              | (go_simp
                 first | rfl | exact⟨rfl,hw⟩ | (trace_state;fail))))))
          refine wpQuiet_nil ?_;intro w3 hb3;go_wp2;go_meet
          exact⟨rfl,hb3⟩
         case rest=>
          obtain⟨rfl,hb2⟩:=hcut;have Hb2:=hid (Hw1.out.trans (hb2.out.mono Hw1.out.size));clear hb2;go_wp2_with fail;refine(je 3 k _).mono ?_;rintro z w3 ⟨rfl,rfl⟩;go_wp2;go_ret;exact⟨by rw[Hck.out,Hr.out];rfl,Hb2.out⟩
       · have Hr:=hid (zen ht.out (Hat.out.trans (if_neg (fun h=>hle h.2))))
         have hci:decide (Lib.compareInt (er:Int) (pr:Int)≤0)=false:=by
          unfold Lib.compareInt;rw[decide_eq_false_iff_not,if_neg (by omega),if_pos (by omega)];omega
         generalize Lib.compareInt (er:Int) (pr:Int)=ci at*;clear hle;go_wp2_with fail;go_cut [33] (fun t wc=>t=.bool false∧Hid (Below w1.heap.size w1 wc))
         case first=>
          refine vv (by kernel_rfl) (by kernel_rfl) ?_
          repeat (go_big_quiet_step ((intro hw;first
           | rfl
           | (have q0:=HX1.out _ hw
              have q1:=q0.1;have q2:=q0.2.1;have q3:=q0.2.2;have q4:=HP1.out _ hw;clear q0
              first
              | (go_at_call 171;exact vu hw (hK.out _))
              | (go_simp
                 first | rfl | exact⟨rfl,hw⟩ | (trace_state;fail))))))
          refine wpQuiet_nil ?_;intro w3 hb3;go_wp2;go_meet
          exact⟨rfl,hb3⟩
         case rest=>
          obtain⟨rfl,hb2⟩:=hcut;have Hb2:=hid (Hw1.out.trans (hb2.out.mono Hw1.out.size));clear hb2;go_wp2;go_roundw
          case rel=>exact⟨k+1,by omega,by go_num,Hb2.out,Hr.out⟩
          case measure=>simp[intOf];omega
     · have hg:decide (0<(k:Int))=false:=by rw[decide_eq_false_iff_not];omega
       have hgn:decide (0<k)=false:=by rw[decide_eq_false_iff_not];exact hk0
       have Hr:=hid (zen ht.out (Hat.out.trans (if_neg (fun h=>hk0 h.1))));clear hk0;go_wp2;go_quiet (fail);go_wp2;go_roundw
       case rel=>exact⟨k+1,by omega,by go_num,by first | exact Hw1.out | exact zq Hw1.out _,Hr.out⟩
       case measure=>simp[intOf];omega
  · obtain rfl:k=n:=by omega
    have Hr:=hid (zfc (n:=v.length) (fun j hj=>ht.out j (by rw[←Hl.out];exact hj)));go_wp2;go_ret;exact⟨by rw[Hck.out,Hr.out];rfl,Hb.out⟩
set_option maxRecDepth 100000 in
theorem zr0 (a:Option Addr) (n cap:Nat) (most:Int) (l:List Nat) (w:World) (hB:Byts w a n cap l) (hn:n≤1000000000000):
 Calls Tryz.prog 165 #[.slice a n cap,.int .i64 n,.int .i64 most] w fun e w'=>
  e=.returned (.tuple #[.int .i64 ((yr l n most).1:Nat),.int .i64 ((yr l n most).2.1:Nat),zn (yr l n most).2.2])∧Below w.heap.size w w':=by
 have HB:=hid hB;have hbad:yr l n most=(0,0,some (5,some (n:Int))):=zce (zba (show 0<5 by omega) (fun j hj=>by omega) (zcy (by rw[hB.len];omega)));have Hbad:=hid hbad;clear hbad;obtain⟨hl,hlt,hnc,hcm,hnil,hc⟩:=hB;clear hcm hl hlt hc;have h0p:(0:Int)≤(n:Int):=by omega
 have Hb0:=hid ((Below.refl w.heap.size w).alloc (Nat.le_refl _) (.cells #[.int .u8 0,.int .u8 0,.int .u8 0,.int .u8 0] 139))
 cases a with
 | none=>
  have hc0:=hnil rfl;obtain rfl:n=0:=by omega
  subst hc0;clear hnil;go_enter Tryz.func165,Tryz.ntmps165;go_wp2_with fail;go_region_law (refine step_copy_splice rfl (.tmp 20) (.tmp 23) 22 22 rfl 5 Tryz.underlying22 (by kernel_rfl) (some ⟨w.heap.size,0,none⟩) _ 4 4 _ _ rfl rfl w.heap.size 0 [.int .u8 0,.int .u8 0,.int .u8 0,.int .u8 0] 139 (heap_alloc_new _ _) [] rfl (fun h=>absurd h (Nat.lt_irrefl 0)) (Nat.zero_le _) (by intro v hv;cases hv) w.heap.size w Hb0.out.drew (Nat.le_refl _) ?_;intro w4 hg4 hb4)
  have Hg4:=hid hg4.out;clear hg4;go_wp2_with fail;refine(zdy _).mono ?_;rintro e w5 ⟨rfl,hb5⟩;have hgl4:w.heap.size<w4.heap.size:=(Array.getElem?_eq_some_iff.1 Hg4.out).1;have hgl:w.heap.size<w5.heap.size:=Nat.lt_of_lt_of_le hgl4 hb5.size;have hg5:=(hb5.block w.heap.size hgl4).trans Hg4.out;have c0:=cell_of_row w5 w.heap.size 0 _ _ _ hg5;have c1:=cell_of_row w5 w.heap.size 1 _ _ _ hg5;have c2:=cell_of_row w5 w.heap.size 2 _ _ _ hg5;have c3:=cell_of_row w5 w.heap.size 3 _ _ _ hg5;simp only[splice,List.take_zero,List.nil_append,List.length_nil,Nat.add_zero,List.drop_zero,List.getElem?_toArray,List.getElem?_cons_zero,List.getElem?_cons_succ] at c0 c1 c2 c3;have hb:=hb4.trans (hb5.mono hb4.size);clear hg5 hb4 hb5 Hg4 hgl4;have he4:=zdl;go_wp2_with fail;refine wp_loop_once ?_;go_wp2_with fail;refine(je 5 _ _).mono ?_;rintro e w' ⟨rfl,rfl⟩;go_wp2_with fail;go_ret3
  refine⟨?_,hb.alloc hb.size _⟩;rw[Hbad.out]
  rfl
 | some x=>
  clear hnil;by_cases hcn:cap=n
  · subst hcn;go_enter Tryz.func165,Tryz.ntmps165;go_wp2_with fail;go_region_law (refine step_copy_splice rfl (.tmp 20) (.tmp 23) 22 22 rfl 5 Tryz.underlying22 (by kernel_rfl) (some ⟨w.heap.size,0,none⟩) _ 4 4 _ _ rfl rfl w.heap.size 0 [.int .u8 0,.int .u8 0,.int .u8 0,.int .u8 0] 139 (heap_alloc_new _ _) [] (by simp) (fun h=>absurd h (Nat.lt_irrefl 0)) (Nat.zero_le _) (by intro v hv;cases hv) w.heap.size w Hb0.out.drew (Nat.le_refl _) ?_;intro w4 hg4 hb4)
    have Hg4:=hid hg4.out;clear hg4;go_wp2_with fail;refine(zdy _).mono ?_;rintro e w5 ⟨rfl,hb5⟩;have hgl4:w.heap.size<w4.heap.size:=(Array.getElem?_eq_some_iff.1 Hg4.out).1;have hgl:w.heap.size<w5.heap.size:=Nat.lt_of_lt_of_le hgl4 hb5.size;have hg5:=(hb5.block w.heap.size hgl4).trans Hg4.out;have c0:=cell_of_row w5 w.heap.size 0 _ _ _ hg5;have c1:=cell_of_row w5 w.heap.size 1 _ _ _ hg5;have c2:=cell_of_row w5 w.heap.size 2 _ _ _ hg5;have c3:=cell_of_row w5 w.heap.size 3 _ _ _ hg5;simp only[splice,List.take_zero,List.nil_append,List.length_nil,Nat.add_zero,List.drop_zero,List.getElem?_toArray,List.getElem?_cons_zero,List.getElem?_cons_succ] at c0 c1 c2 c3;have hb:=hb4.trans (hb5.mono hb4.size);clear hg5 hb4 hb5 Hg4 hgl4;have he4:=zdl;go_wp2_with fail;refine wp_loop_once ?_;go_wp2_with fail;refine(je 5 _ _).mono ?_;rintro e w' ⟨rfl,rfl⟩;go_wp2_with fail;go_ret3
    refine⟨?_,hb.alloc hb.size _⟩;rw[Hbad.out]
    rfl
  · have hcn':¬cap=n:=hcn;go_enter Tryz.func165,Tryz.ntmps165;go_wp2_with fail;go_region_law (refine step_copy_splice rfl (.tmp 20) (.tmp 23) 22 22 rfl 5 Tryz.underlying22 (by kernel_rfl) (some ⟨w.heap.size,0,none⟩) _ 4 4 _ _ rfl rfl w.heap.size 0 [.int .u8 0,.int .u8 0,.int .u8 0,.int .u8 0] 139 (heap_alloc_new _ _) [] (by simp) (fun h=>absurd h (Nat.lt_irrefl 0)) (Nat.zero_le _) (by intro v hv;cases hv) w.heap.size w Hb0.out.drew (Nat.le_refl _) ?_;intro w4 hg4 hb4)
    have Hg4:=hid hg4.out;clear hg4;go_wp2_with fail;refine(zdy _).mono ?_;rintro e w5 ⟨rfl,hb5⟩;have hgl4:w.heap.size<w4.heap.size:=(Array.getElem?_eq_some_iff.1 Hg4.out).1;have hgl:w.heap.size<w5.heap.size:=Nat.lt_of_lt_of_le hgl4 hb5.size;have hg5:=(hb5.block w.heap.size hgl4).trans Hg4.out;have c0:=cell_of_row w5 w.heap.size 0 _ _ _ hg5;have c1:=cell_of_row w5 w.heap.size 1 _ _ _ hg5;have c2:=cell_of_row w5 w.heap.size 2 _ _ _ hg5;have c3:=cell_of_row w5 w.heap.size 3 _ _ _ hg5;simp only[splice,List.take_zero,List.nil_append,List.length_nil,Nat.add_zero,List.drop_zero,List.getElem?_toArray,List.getElem?_cons_zero,List.getElem?_cons_succ] at c0 c1 c2 c3;have hb:=hb4.trans (hb5.mono hb4.size);clear hg5 hb4 hb5 Hg4 hgl4;have he4:=zdl;go_wp2_with fail;refine wp_loop_once ?_;go_wp2_with fail;refine(je 5 _ _).mono ?_;rintro e w' ⟨rfl,rfl⟩;go_wp2_with fail;go_ret3
    refine⟨?_,hb.alloc hb.size _⟩;rw[Hbad.out]
    rfl
theorem zr1 (a:Option Addr) (n cap p:Nat) (most:Int) (l:List Nat) (w:World) (hD:Door w) (hB:Byts w a n cap l) (hp:p≤n) (hn:n≤1000000000000) (hm0: -9223372036854775808≤most) (hm1:most≤9223372036854775807):
 Calls Tryz.prog 165 #[.slice a n cap,.int .i64 p,.int .i64 most] w fun e w'=>
  e=.returned (.tuple #[.int .i64 ((yr l p most).1:Nat),.int .i64 ((yr l p most).2.1:Nat),zn (yr l p most).2.2])∧Below w.heap.size w w':=by
 by_cases h:p<n
 · exact zrf a n cap p most l w hD hB h hn hm0 hm1
 · obtain rfl:p=n:=by omega
   exact zr0 a p cap most l w hB hn
def kz (pay:Nat→List Nat) (n:Nat):List Nat:=(List.range n).flatMap fun i=>zab (pay i)
theorem zr2 (pay:Nat→List Nat) (n:Nat):kz pay (n+1)=kz pay n++zab (pay n):=by
 unfold kz;rw[List.range_succ,List.flatMap_append];simp
set_option maxRecDepth 20000 in
theorem zr3 (b o n cap:Nat) (E:Nat→Value) (pay:Nat→List Nat) (w:World) (hc:∀i,i<n→w.cell? ⟨b,o+i,none⟩=some (E i)) (hr:n≤cap) (hcm:cap≤1000)
 (hE:∀i,i<n→∀W,Below w.heap.size w W→Calls Tryz.prog 54 #[E i] W fun x w'=>(∃v,x=.returned (.tuple #[v,.nilIface])∧w'.ownsRow W.heap.size 5 1 v (pay i).length (u8s (pay i)))∧Below W.heap.size W w')
 (hlt:∀i,i<n→∀x∈pay i,x<256) (hlen:∀i,i≤n→(kz pay i).length≤1000000000000):
 Calls Tryz.prog 71 #[.slice (some ⟨b,o,none⟩) n cap] w fun e w'=>(∃v,e=.returned (.tuple #[v,.nilIface])∧w'.ownsRow w.heap.size 5 1 v (kz pay n).length (u8s (kz pay n)))∧Below w.heap.size w w':=by
 have HE:=hid hE;have Hlt:=hid hlt;have Hlen:=hid hlen;have Hc:=hid (fun W (h:Below w.heap.size w W) i (hi:i<n)=>(h.cell (p:=⟨b,o+i,none⟩) (ze (hc i hi))).trans (hc i hi));have hm:n≤9223372036854775807:=by omega
 clear hE hlt hlen hc;go_enter Tryz.func71,Tryz.ntmps71;go_wp2_with fail;go_loopw [4,11] (fun v i wr=>∃k:Nat,k≤n∧i=.int .i64 k∧Hid (Below w.heap.size w wr)∧Hid (wr.ownsRow w.heap.size 5 1 v (kz pay k).length (u8s (kz pay k)))) (fun _ i _=>n - (intOf i).toNat)
 case atStart=>exact⟨0,Nat.zero_le _,rfl,hid (Below.refl _ _),hid (World.ownsRow_nil _ _ _ _)⟩
 case round=>
  obtain⟨k,hkn,rfl,hb,ho⟩:=hrel;have Hsz:=hid hb.out.size;by_cases hlt:k<n
  · have e1:=Hc.out _ hb.out k hlt;have hd:decide ((k:Int)<(n:Int))=true:=by rw[decide_eq_true_iff];omega
    have hk1:IntKind.i64.wrap ((k:Int)+1)=((k+1:Nat):Int):=by rw[IntKind.wrap_i64];omega
    have h0:(0:Int)≤(k:Int):=by omega
    have h0n:(k:Int)<(n:Int):=by omega
    have HEn:=hid (HE.out k hlt wr hb.out);have Hsu:=hid (zr2 pay k);have hl1:=Hlen.out k (by omega);have hl2:=Hlen.out (k+1) (by omega);rw[Hsu.out,List.length_append] at hl2
    have Hfl:=hid (show (pay k).length≤1000000000000 from by
     have:(pay k).length≤(zab (pay k)).length:=by unfold zab;simp only[List.length_append];omega
     omega)
    have Hfl0:=hid hl1;have Hpl:=hid (Hlt.out k hlt);clear hl1 hl2;generalize E k=ek at*;go_wp2_with fail;refine HEn.out.mono ?_;rintro e w2 ⟨⟨pv,rfl,hpo⟩,hb2⟩;have Ho2:=hid (yf ho.out hb2);have Hb2:=hid (hb.out.trans (hb2.mono Hsz.out));obtain⟨bb,cc,rfl,hB2⟩:=zet hpo Hpl.out
    have hne:∀b' o' k',bb=some ⟨b',o',k'⟩→Value.ownBlock _≠some b':=fun b' o' k' e h=>by
     have h1:=(ho.out.lt b' h).2;rcases zps hpo with ⟨e2,-⟩ | ⟨g,e2,h2,-⟩
     · rw[e2] at e;cases e
     · rw[e2] at e;injection e with e;injection e with e;omega
    have HAp:=hid (fun hx hy=>zrj _ _ w.heap.size _ bb _ cc _ w2 hB2 hne Ho2.out (Nat.le_trans Hsz.out hb2.size) hx hy);have Hs2:=hid (Nat.le_trans Hsz.out hb2.size);clear hb2 hB2 hpo hne;go_wp2_with fail;refine(HAp.out Hfl.out Hfl0.out).mono ?_;rintro e w3 ⟨⟨v3,rfl,ho3⟩,hb3⟩;have Hb3:=hid (Hb2.out.trans hb3)
    have Ho3:=hid (show w3.ownsRow w.heap.size 5 1 v3 (kz pay (k+1)).length (u8s (kz pay (k+1))) from by
     rw[Hsu.out,List.length_append,zcx];exact ho3)
    clear ho3 hb3;go_wp2_with fail;go_roundw
    case rel=>exact⟨k+1,hlt,rfl,Hb3,Ho3⟩
    case measure=>simp[intOf];omega
  · obtain rfl:k=n:=by omega
    have hd:decide ((k:Int)<(k:Int))=false:=by rw[decide_eq_false_iff_not];omega
    go_wp2_with fail;go_ret2;exact⟨⟨_,rfl,ho.out⟩,hb.out⟩
theorem zfn {w:World} (base:Nat) (v:Value) (n:Nat) (xs:List Iv) (hown:w.ownsRow base 89 2 v n (ivC xs)) (A:Option Addr) (c:Nat) (s:Iv) (hr:Rd w 2 A 1 (ivC [s])) (hb:n+1≤1000000000000) (hbase:base≤w.heap.size):
 ∃v' w',(Builtin.append_ #[91,91] 91 #[v,.slice A 1 c]).run Tryz.prog w=.ok v' w'∧w'.ownsRow base 89 2 v' (n+1) (ivC (xs++[s]))∧w.grownBy w' v.ownBlock∧∀g',v'.ownBlock=some g'→v.ownBlock=some g'∨w.heap.size≤g':=by
 rcases hown.2 with ⟨rfl,h0⟩ | ⟨g,cap,cur,rfl,hg,hrow,hnc,hcm,hcs,htake⟩
 · have hx:xs=[]:=by
    have:=hown.1;rw[zew,h0] at this;exact List.length_eq_zero_iff.1 (by omega)
   subst h0 hx;obtain⟨v',w',h1,h2,h3⟩:=ze7 (w:=w) w.heap.size (.slice none 0 0) 0 [] (World.ownsRow_nil _ _ _ _) A 1 c [s] hr (by omega) (Nat.le_refl _);exact⟨v',w',h1,vw h2 hbase,h3,fun g' e=>.inr (h2.lt _ e).1⟩
 · obtain⟨i,hi,hz,hs,hby⟩:=info_parts Tryz.info_iv;obtain⟨b,o,rfl,hc⟩:=hr.2 (by omega);by_cases hf:n+1≤cap
   · obtain⟨w',r1,r2,r3⟩:=run_append_fits (P:=Tryz.prog) w base 91 91 89 i 2 Tryz.underlying91 hi hs g n cap _ hown ⟨b,o,none⟩ 1 c (ivC [s]) rfl (hr.news (by omega)) (zi3 [s]) hf;exact⟨_,w',r1,by rw[zgg];exact r2,r3,fun g' e=>.inl e⟩
   · obtain⟨v',w',r1,r2,r3⟩:=run_append_arg_grows (P:=Tryz.prog) w 91 91 89 i _ 2 16 Tryz.underlying91 hi hz hs hby rfl (by omega) ⟨g,0,none⟩ n cap (ivC xs) hown.1 (fun j u hu=>hown.cells (g:=g) rfl j u hu) ⟨b,o,none⟩ 1 c (ivC [s]) rfl (hr.news (by omega)) (by omega) (by unfold maxLen;omega) (by omega);exact⟨v',w',r1,by rw[zgg];exact vw r2 hbase,⟨r3.os,r3.tape,r3.output,r3.size,fun k hk _=>r3.block k hk (by simp)⟩,fun g' e=>.inr (r2.lt _ e).1⟩
theorem yi {w w':World} {base sz n:Nat} {e:TypeId} {v:Value} {xs:List Value} (h:w.ownsRow base e sz v n xs) (hk:∀k,v.ownBlock=some k→w'.heap[k]?=w.heap[k]?):w'.ownsRow base e sz v n xs:=by
 refine⟨h.1,?_⟩;rcases h.2 with h2 | ⟨g,cap,cur,hv,hg,hh,r⟩
 · exact .inl h2
 · subst hv;exact .inr ⟨g,cap,cur,rfl,hg,(hk g rfl).trans hh,r⟩
theorem zr4 {β:Type} (f:Nat→β) (n k:Nat) (a:β):((List.range n).map f).set k a=(List.range n).map fun i=>if i=k then a else f i:=by
 refine List.ext_getElem (by simp) fun i h1 h2=>?_
 rw[List.getElem_set];simp only[List.getElem_map,List.getElem_range];by_cases h:k=i
 · rw[if_pos h,if_pos h.symm]
 · rw[if_neg h,if_neg (fun e=>h e.symm)]
theorem zkq:∀(ss:List (Value×Value)) (k:Nat) (x:Value),(vg ss).set (k*2) x=vg (ss.set k (x,(ss.getD k (x,x)).2))
 | [],k,x=>by simp[vg]
 | s :: ss,0,x=>rfl
 | s :: ss,k+1,x=>by
   have e1:vg (s :: ss)=s.1 :: s.2 :: vg ss:=rfl;rw[e1,show (k+1)*2=k*2+1+1 by omega,List.set_cons_succ,List.set_cons_succ,zkq ss k x]
   rfl
def j9 (n:Nat) (X Y:Nat→Value):List Value:=vg ((List.range n).map fun i=>(X i,Y i))
def upd {β:Type} (X:Nat→β) (k:Nat) (x:β):Nat→β:=fun i=>if i=k then x else X i
theorem zai {β:Type} (X:Nat→β) (k:Nat) (x:β):upd X k x k=x:=if_pos rfl
theorem kj {β:Type} (X:Nat→β) {k i:Nat} (x:β) (h:i≠k):upd X k x i=X i:=if_neg h
theorem zhe {n k:Nat} (hk:k<n) (X Y:Nat→Value) (x:Value):(j9 n X Y).set (k*2) x=j9 n (upd X k x) Y:=by
 unfold j9;rw[zkq,zr4];congr 1;refine List.map_congr_left fun i hi=>?_
 by_cases h:i=k
 · subst h;simp[upd,hk]
 · simp[upd,h]
theorem zbe {n k:Nat} (hk:k<n) (X Y:Nat→Value):(j9 n X Y)[k*2]?=some (X k)∧(j9 n X Y)[k*2+1]?=some (Y k):=
 zgx (p:=(X k,Y k)) (by simp[hk])
theorem zr5 (n:Nat) (X Y:Nat→Value):j9 (n+1) X Y=j9 n X Y++[X n,Y n]:=by
 unfold j9;rw[List.range_succ,List.map_append,zqk]
 rfl
structure BldM (w2 w:World) (base g n c:Nat) (Y:Nat→Value) (L:Nat→List Iv) (X:Nat→Value):Prop where
 kept:Kept (fun b=>b<w2.heap.size∧b≠g) w2 w
 row:w.ownsRow base 97 2 (.slice (some ⟨g,0,none⟩) n c) n (j9 n X Y)
 its:∀i,i<n→w.ownsRow w2.heap.size 89 2 (X i) (L i).length (ivC (L i))
 apart:∀i,i<n→∀j,j<n→i≠j→∀b,(X i).ownBlock=some b→(X j).ownBlock≠some b
theorem BldM.cells {w2 w:World} {base g n c:Nat} {Y:Nat→Value} {L:Nat→List Iv} {X:Nat→Value} (h:BldM w2 w base g n c Y L X) {i:Nat} (hi:i<n):w.cell? ⟨g,i*2,none⟩=some (X i)∧w.cell? ⟨g,i*2+1,none⟩=some (Y i):=by
 obtain⟨e1,e2⟩:=zbe hi X Y;have c1:=h.row.cells (g:=g) rfl _ _ e1;have c2:=h.row.cells (g:=g) rfl _ _ e2;rw[yv,Nat.zero_add] at c1 c2;exact⟨c1,c2⟩
theorem BldM.below {w2 w w':World} {base g n c:Nat} {Y:Nat→Value} {L:Nat→List Iv} {X:Nat→Value} (h:BldM w2 w base g n c Y L X) (hb:Below w.heap.size w w'):BldM w2 w' base g n c Y L X:=
 ⟨h.kept.below hb,yf h.row hb,fun i hi=>yf (h.its i hi) hb,h.apart⟩
theorem BldM.step {w2 w w':World} {base g n c j:Nat} {Y:Nat→Value} {L L':Nat→List Iv} {X:Nat→Value} (h:BldM w2 w base g n c Y L X) (hj:j<n) (hg:g<w2.heap.size) {v':Value} {l:List Iv}
 (ho:w'.ownsRow w2.heap.size 89 2 v' l.length (ivC l)) (hgr:w.grownBy w' (X j).ownBlock) (hv:∀g',v'.ownBlock=some g'→(X j).ownBlock=some g'∨w.heap.size≤g') (hL:L' j=l) (hO:∀i,i≠j→L' i=L i):
 BldM w2 (w'.setCell ⟨g,j*2,none⟩ v') base g n c Y L' (upd X j v'):=by
 have hne:∀k,(X j).ownBlock=some k→w2.heap.size≤k:=fun k hk=>((h.its j hj).lt k hk).1
 have hgw:g<w.heap.size:=Nat.lt_of_lt_of_le hg h.kept.size
 have hrow':w'.ownsRow base 97 2 (.slice (some ⟨g,0,none⟩) n c) n (j9 n X Y):=yi h.row fun k hk=>by
  have e:k=g:=by simpa [Value.ownBlock] using hk.symm
  subst e;exact hgr.block k hgw fun e=>by have:=hne k e.symm;omega
 have hset:∀k,w2.heap.size≤k→(w'.setCell ⟨g,j*2,none⟩ v').heap[k]?=w'.heap[k]?:=fun k hk=>Below.heap_setCell _ _ _ _ (by simp only;omega)
 refine⟨(h.kept.grown hgr fun k hk hl=>?_).setCell (fun _ h=>h.2 rfl) _,?_,fun i hi=>?_,fun i hi i' hi' hii b=>?_⟩
 · have:=hne k hk;omega
 · rw[←zhe hj];exact(hrow'.stored (j*2) v').1
 · by_cases e:i=j
   · subst e;rw[zai,hL];exact yi ho fun k hk=>hset k (ho.lt k hk).1
   · rw[kj _ _ e,hO i e];refine yi (h.its i hi) fun k hk=>?_
     have hkl:=(h.its i hi).lt k hk;rw[hset k hkl.1];exact hgr.block k hkl.2 (fun e'=>h.apart i hi j hj e k hk e'.symm)
 · by_cases e:i=j
   · subst e;rw[zai,kj _ _ (fun e=>hii e.symm)];intro hb hb';have hkl:=(h.its i' hi').lt b hb';rcases hv b hb with h' | h'
     · exact h.apart i hi i' hi' hii b h' hb'
     · omega
   · rw[kj _ _ e];intro hb;by_cases e':i'=j
     · subst e';rw[zai];intro hb';have hkl:=(h.its i hi).lt b hb;rcases hv b hb' with h' | h'
       · exact h.apart i hi i' hi' hii b hb h'
       · omega
     · rw[kj _ _ e'];exact h.apart i hi i' hi' hii b hb
theorem zr6 {w2 w:World} {base g:Nat} {y:Value} {v:Vec} (h:EnSl w2 base y v) (hk:Kept (fun b=>b<w2.heap.size∧b≠g) w2 w) {C:Array Value} {fr:Nat×Nat} (hg:w2.heap[g]?=some (.cells C 97 fr)) (hb:base≤g):EnSl w base y v:=by
 refine h.steady (P:=za0) ⟨hk.size,fun k hk2 hp=>hk.row k hk2 ⟨hk2,fun e=>?_⟩⟩ (.inl rfl) (.inr rfl);subst e;rcases hp with h' | ⟨C',T,fr',hT,h'⟩
 · omega
 · rw[hg] at h';cases h';rcases hT with h | h <;> cases h
theorem BldM.frags {w2 w:World} {base g n c ib:Nat} {Y:Nat→Value} {L:Nat→List Iv} {X:Nat→Value} (h:BldM w2 w base g n c Y L X) (hg:base≤g) (hib:ib≤g) {k:Kno} (hk:k.length=n) (hL:∀i,i<n→(zd k i).1=L i) (h64:∀i,i<n→yj (L i)) (hY:∀i,i<n→EnSl w2 ib (Y i) (zd k i).2)
 {C:Array Value} {fr:Nat×Nat} (hr:w2.heap[g]?=some (.cells C 97 fr)):Frags w (some ⟨g,0,none⟩) n c k:=by
 have hcc:n≤c∧c≤9223372036854775807:=by
  rcases h.row.2 with ⟨h',_⟩ | ⟨g',cap,cur,h',_,_,hnc,hcm,_⟩
  · cases h'
  · cases h';unfold maxLen at hcm;omega
 refine⟨hk,hcc.1,hcc.2,(by intro e;cases e),fun hn=>⟨g,0,rfl,fun i hi=>?_⟩⟩
 · obtain⟨c1,c2⟩:=h.cells hi;rw[Nat.zero_add];constructor
   · obtain⟨a,c,e,hI⟩:=zbn (h.its i hi) (h64 i hi);rw[e] at c1;exact⟨a,_,c,c1,by rw[hL i hi];exact hI⟩
   · obtain⟨a,m,c,e,hE⟩:=zr6 (hY i hi) h.kept hr hib;rw[e] at c2;exact⟨a,m,c,c2,hE.ents⟩
structure Vecs (w:World) (a:Option Addr) (n cap:Nat) (vs:List Vec):Prop where
 len:vs.length=n
 room:n≤cap
 most:cap≤9223372036854775807
 nilc:a=none→cap=0
 cells:0<n→∃b o,a=some ⟨b,o,none⟩∧∀i,i<n→EnCell w ⟨b,o+i,none⟩ (yt vs i)
theorem Vecs.below {w w':World} {a:Option Addr} {n cap:Nat} {vs:List Vec} (h:Vecs w a n cap vs) (hb:Below w.heap.size w w'):Vecs w' a n cap vs:=by
 refine⟨h.len,h.room,h.most,h.nilc,fun hn=>?_⟩;obtain⟨b,o,ha,hc⟩:=h.cells hn;exact⟨b,o,ha,fun i hi=>(hc i hi).below hb⟩
theorem Vecs.fix {w:World} {b o n cap:Nat} {vs:List Vec} (h:Vecs w (some ⟨b,o,none⟩) n cap vs) {i:Nat} (hi:i<n):∃y m c,∀w',Below w.heap.size w w'→w'.cell? ⟨b,o+i,none⟩=some (.slice y m c)∧Ents w' y m c (yt vs i):=by
 obtain⟨b',o',hs,hc⟩:=h.cells (by omega);cases hs;obtain⟨y,m,c,h1,h2⟩:=hc i hi;exact⟨y,m,c,fun w' hb=>⟨(hb.cell (ze h1)).trans h1,h2.below hb⟩⟩
theorem Vecs.some {w:World} {a:Option Addr} {n cap:Nat} {vs:List Vec} (h:Vecs w a n cap vs) (hn:0<n):∃b o,a=some ⟨b,o,none⟩:=by
 obtain⟨b,o,ha,-⟩:=h.cells hn;exact⟨b,o,ha⟩
structure Zs (w:World) (a:Option Addr) (n cap:Nat) (l:List Int):Prop where
 len:l.length=n
 room:n≤cap
 most:cap≤9223372036854775807
 nilc:a=none→cap=0
 lt:∀x∈l,-9223372036854775808≤x∧x≤9223372036854775807
 cells:0<n→∃b o,a=some ⟨b,o,none⟩∧∀i,i<n→w.cell? ⟨b,o+i,none⟩=some (.int .i64 (zas l i))
theorem Zs.below {w w':World} {a:Option Addr} {n cap:Nat} {l:List Int} (h:Zs w a n cap l) (hb:Below w.heap.size w w'):Zs w' a n cap l:=by
 refine⟨h.len,h.room,h.most,h.nilc,h.lt,fun hn=>?_⟩;obtain⟨b,o,ha,hc⟩:=h.cells hn;exact⟨b,o,ha,fun i hi=>(hb.cell (p:=⟨b,o+i,none⟩) (ze (hc i hi))).trans (hc i hi)⟩
theorem Ivs.at {w:World} {b o n c:Nat} {l:List Iv} (h:Ivs w (some ⟨b,o,none⟩) n c l) {j:Nat} (hj:j<n) (w':World) (hb:Below w.heap.size w w'):w'.cell? ⟨b,o+j*2,none⟩=some (.int .u64 (((zc l j).1:Nat):Int))∧w'.cell? ⟨b,o+j*2+1,none⟩=some (.int .u64 (((zc l j).2:Nat):Int)):=by
 obtain⟨b',o',e,hc⟩:=(h.below hb).cells (by omega);cases e;exact hc j hj
theorem Zs.at {w:World} {b o n c:Nat} {l:List Int} (h:Zs w (some ⟨b,o,none⟩) n c l) {j:Nat} (hj:j<n) (w':World) (hb:Below w.heap.size w w'):w'.cell? ⟨b,o+j,none⟩=some (.int .i64 (zas l j)):=by
 obtain⟨b',o',e,hc⟩:=(h.below hb).cells (by omega);cases e;exact hc j hj
theorem Zs.some {w:World} {a:Option Addr} {n c:Nat} {l:List Int} (h:Zs w a n c l) (hn:0<n):∃b o,a=some ⟨b,o,none⟩:=by
 obtain⟨b,o,ha,-⟩:=h.cells hn;exact⟨b,o,ha⟩
theorem Ivs.some {w:World} {a:Option Addr} {n c:Nat} {l:List Iv} (h:Ivs w a n c l) (hn:0<n):∃b o,a=some ⟨b,o,none⟩:=by
 obtain⟨b,o,ha,-⟩:=h.cells hn;exact⟨b,o,ha⟩
theorem zr7 {v:Vec} (h:LtV v) {d:Nat} (hd:d<v.length):zbu v d<18446744073709551616:=by
 have h1:=(h _ (zc2 hd)).rep;unfold zbu;split
 · rename_i e;rw[←e];exact h1
 · omega
theorem zr8 {v:Vec} (h:LtV v) (hh:∀e∈v,e.2.2.length≤500) {d:Nat} (hd:d<v.length):∀y∈zaf v d,y<18446744073709551616:=by
 intro y hy;have hm:=zc2 hd;unfold zaf at hy;rcases List.mem_append.1 hy with hy | hy
 · simp at hy;rcases hy with rfl | rfl | rfl
   · exact zr7 h hd
   · exact(h _ hm).max
   · have:=hh _ hm;omega
 · exact zkh (h _ hm).holes _ (Nat.le_refl _) y hy
