/- Part 09. -/
import Derived.Test.YtdnipikdddfhfaaGreatDoorOb08
set_option linter.unusedVariables false
set_option maxHeartbeats 16000000
namespace Go.Proofs.YtdnipikdddfhfaaGreatDoor
open Lib (hid)
section
open Go.RowKit
attribute [local go_sem] qj
theorem zpt (ao al x:Nat) (w:World) (h:al+x<18446744073709551616) (ha:ao<1000):
 Calls Tryz.prog 234 #[.agg #[.int .u64 (ao:Int),.int .u64 (al:Int)],.agg #[.int .u64 0,.int .u64 (x:Int)]] w fun e w'=>e=.returned (.agg #[.int .u64 (ao:Int),.int .u64 ((al+x:Nat):Int)])∧Below w.heap.size w w':=by
 have k1:IntKind.u64.wrap ((al:Int)+(x:Int))=((al+x:Nat):Int):=by rw[IntKind.wrap_u64];omega
 have k2:decide (((al+x:Nat):Int)<(al:Int))=false:=by rw[decide_eq_false_iff_not];omega
 have k3:decide (al+x<al)=false:=by rw[decide_eq_false_iff_not];omega
 clear h;go_enter Tryz.func234,Tryz.ntmps234;go_wp2_with fail;exact bodyPost_ret (v:=.agg #[.int .u64 (ao:Int),.int .u64 ((al+x:Nat):Int)]) (by simp[results,Tryz.results234,go_sem]) rfl ⟨rfl,((((Below.refl _ _).alloc (Nat.le_refl _) _).alloc (by simp) _).alloc (by simp;omega) _).alloc (by simp;omega) _⟩
theorem zpu (ao al x:Nat) (w:World) (h:¬al+x<18446744073709551616) (ha:ao<1000) (h1:al<18446744073709551616) (h2:x<18446744073709551616):
 Calls Tryz.prog 234 #[.agg #[.int .u64 (ao:Int),.int .u64 (al:Int)],.agg #[.int .u64 0,.int .u64 (x:Int)]] w fun e w'=>e=.returned (.agg #[.int .u64 ((ao+1:Nat):Int),.int .u64 ((al+x - 18446744073709551616:Nat):Int)])∧Below w.heap.size w w':=by
 have k1:IntKind.u64.wrap ((al:Int)+(x:Int))=((al+x - 18446744073709551616:Nat):Int):=by rw[IntKind.wrap_u64];omega
 have k2:decide (((al+x - 18446744073709551616:Nat):Int)<(al:Int))=true:=by rw[decide_eq_true_iff];omega
 have k3:decide (al+x - 18446744073709551616<al)=true:=by rw[decide_eq_true_iff];omega
 clear h h1 h2;generalize al+x - 18446744073709551616=y at*;go_enter Tryz.func234,Tryz.ntmps234;go_wp2_with fail;exact bodyPost_ret (v:=.agg #[.int .u64 ((ao+1:Nat):Int),.int .u64 (y:Int)]) (by simp[results,Tryz.results234,go_sem]) rfl ⟨rfl,((((Below.refl _ _).alloc (Nat.le_refl _) _).alloc (by simp) _).alloc (by simp;omega) _).alloc (by simp;omega) _⟩
def j6 (s:Nat):Value:=if s<18446744073709551616 then .tuple #[.int .u64 ((s:Nat):Int),.bool true] else .tuple #[.int .u64 0,.bool false]
theorem zpv (l:List Nat) (k:Nat) (h:k<l.length):(l.take (k+1)).sum=(l.take k).sum+nth l k:=by
 rw[zda l k h,List.sum_append];simp
set_option maxRecDepth 20000 in
theorem zpw (A:Option Addr) (n cp:Nat) (l:List Nat) (w:World) (hR:Rd w 1 A n (yi l)) (hl:l.length=n) (h64:∀x∈l,x<18446744073709551616) (hn:n≤10):
 Calls Tryz.prog 192 #[.slice A n cp] w fun e w'=>e=.returned (j6 l.sum)∧Below w.heap.size w w':=by
 have HR:=hid hR;have Hl:=hid hl;have H64:=hid h64;clear hR hl h64;go_enter Tryz.func192,Tryz.ntmps192;go_wp2_with fail;have Hb0:=hid ((Below.refl w.heap.size w).alloc (Nat.le_refl _) (.cells #[.int .u64 0,.int .u64 0] 325));have Hr0:=hid (yf w 325 [.int .u64 0,.int .u64 0]);generalize w.alloc (.cells #[.int .u64 0,.int .u64 0] 325)=w0 at*;obtain⟨g,hg⟩:∃g,g=w.heap.size:=⟨_,rfl⟩;have Hg:=hid hg;rw[←hg] at Hr0 Hb0 ⊢;clear hg;go_loopw [6,9] (fun _ i wr=>∃k ao al:Nat,k≤n∧i=.int .i64 k∧Below g w wr∧Hid (Row wr g 325 [.int .u64 (ao:Int),.int .u64 (al:Int)])∧Hid (ao≤k∧al<18446744073709551616∧ao*18446744073709551616+al=(l.take k).sum)) (fun _ i _=>n - (intOf i).toNat)
 case atStart=>exact⟨0,0,0,by omega,rfl,Hb0.out,Hr0.out,Nat.le_refl _,by omega,rfl⟩
 case round=>
  obtain⟨k,ao,al,hk,rfl,hb,hr,hs⟩:=hrel;have Hb:=hid hb;clear hb;have q0:=hr.out.cell 0 rfl;have q1:=hr.out.cell 1 rfl;have z0:=hr.out.fz 0;have z1:=hr.out.fz 1;obtain⟨s1,s2,s3⟩:=hs.out;have Hs3:=hid s3;have s1':ao<1000:=by omega
  have Hs1:=hid s1;have Hs2:=hid s2;clear s3 s1 s2 hs;by_cases hkn:k<n
  · obtain⟨bb,oo,rfl,hc⟩:=(HR.out.below (show Below w.heap.size w wr from by rw[←Hg.out];exact Hb.out)).2 (by omega);have qx:=hc k _ (zdo l k (by rw[Hl.out];exact hkn));have hxl:=H64.out _ (zl7 (show k<l.length by rw[Hl.out];exact hkn));have Hst:=hid (zpv l k (by rw[Hl.out];exact hkn));clear hc;generalize nth l k=x at*;have Hx:=hid hxl;clear hxl;by_cases hlo:al+x<18446744073709551616
    · have HP:=hid (zpt ao al x wr hlo s1');have Hlo:=hid hlo;clear hlo;go_wp2_with fail;refine HP.out.mono ?_;rintro e w2 ⟨rfl,hb2⟩;have Hr2:=hid (((hr.out.later hb2).set 0 (.int .u64 (ao:Int))).set 1 (.int .u64 ((al+x:Nat):Int)));have f0:=(hr.out.later hb2).fz 0;have f1:=(hr.out.later hb2).fz 1;have p0:=(hr.out.later hb2).cell 0 rfl;have p1:=(hr.out.later hb2).cell 1 rfl;have Hb2:=hid (((Hb.out.trans (hb2.mono (Nat.le_trans (Nat.le_of_eq Hg.out) (by have:=hr.out.lt;have:=Hg.out;omega)))).setCell (p:=⟨g,0,none⟩) (Nat.le_refl _) (.int .u64 (ao:Int))).setCell (p:=⟨g,1,none⟩) (Nat.le_refl _) (.int .u64 ((al+x:Nat):Int)));clear hb2;go_wp2_with fail;go_roundw
      case rel=>exact⟨k+1,ao,al+x,by omega,by go_num,Hb2.out,Hr2.out,by have:=Hs1.out;omega,Hlo.out,by rw[Hst.out,←Hs3.out];omega⟩
      case measure=>simp[intOf];omega
    · have HP:=hid (zpu ao al x wr hlo s1' Hs2.out Hx.out);have Hlo:=hid hlo;clear hlo;go_wp2_with fail;refine HP.out.mono ?_;rintro e w2 ⟨rfl,hb2⟩;have Hr2:=hid (((hr.out.later hb2).set 0 (.int .u64 ((ao+1:Nat):Int))).set 1 (.int .u64 ((al+x - 18446744073709551616:Nat):Int)));have f0:=(hr.out.later hb2).fz 0;have f1:=(hr.out.later hb2).fz 1;have p0:=(hr.out.later hb2).cell 0 rfl;have p1:=(hr.out.later hb2).cell 1 rfl;have Hb2:=hid (((Hb.out.trans (hb2.mono (Nat.le_trans (Nat.le_of_eq Hg.out) (by have:=hr.out.lt;have:=Hg.out;omega)))).setCell (p:=⟨g,0,none⟩) (Nat.le_refl _) (.int .u64 ((ao+1:Nat):Int))).setCell (p:=⟨g,1,none⟩) (Nat.le_refl _) (.int .u64 ((al+x - 18446744073709551616:Nat):Int)));have Hy:=hid (show ao+1≤k+1∧al+x - 18446744073709551616<18446744073709551616∧(ao+1)*18446744073709551616+(al+x - 18446744073709551616)=ao*18446744073709551616+al+x from by have:=Hs2.out;have:=Hx.out;have:=Hlo.out;have:=Hs1.out;omega);clear hb2;generalize al+x - 18446744073709551616=y at*;generalize ao+1=ao1 at*;go_wp2_with fail;go_roundw
      case rel=>exact⟨k+1,ao1,y,by omega,by go_num,Hb2.out,Hr2.out,Hy.out.1,Hy.out.2.1,by rw[Hst.out,←Hs3.out];exact Hy.out.2.2⟩
      case measure=>simp[intOf];omega
  · obtain rfl:k=n:=by omega
    have Htk:=hid (show (l.take k).sum=l.sum from by rw[List.take_of_length_le (by rw[Hl.out];exact Nat.le_refl _)]);have Hbf:=hid (show Below w.heap.size w wr from by rw[←Hg.out];exact Hb.out);by_cases hz:ao=0
    · subst hz
      have Hs:=hid (show j6 l.sum=.tuple #[.int .u64 ((al:Nat):Int),.bool true] from by
       have:=Hs3.out;have:=Hs2.out;rw[←Htk.out,←Hs3.out];unfold j6;rw[if_pos (by omega)];simp)
      go_wp2_with fail;go_ret2;exact⟨by rw[Hs.out];rfl,Hbf.out⟩
    · have h0:(0:Nat)<ao:=by omega
      have Hs:=hid (show j6 l.sum=.tuple #[.int .u64 0,.bool false] from by
       rw[←Htk.out,←Hs3.out];unfold j6;rw[if_neg (by omega)])
      clear hz;go_wp2_with fail;go_ret2;exact⟨by rw[Hs.out];rfl,Hbf.out⟩
end
section
def y9 (l:List Nat):List Nat:=l.flatMap zo
def qn (l:List Iv) (a i:Nat):Nat:=if i=0 then (zb l 0).1 else (zb l i).1 - (zb l (i - 1)).2 - 1 - a
def qr (l:List Iv) (a:Nat):Nat→List Nat
 | 0=>[]
 | d+1=>qr l a d++[qn l a d,(zb l d).2 - (zb l d).1]
def zd1 (l:List Iv) (a:Nat):List Nat:=qr l a l.length
def vv (l:List Iv) (a:Nat):Prop:=∀i,i<l.length→(zb l i).1≤(zb l i).2∧(0<i→(zb l (i - 1)).2+1+a≤(zb l i).1)
theorem zim (l:List Iv) (a:Nat):∀d,(qr l a d).length=2*d
 | 0=>rfl
 | d+1=>by rw[qr,List.length_append,zim l a d];simp;omega
theorem zin {l:List Iv} {a:Nat} (h:yg l):∀d,d≤l.length→∀x∈qr l a d,x<18446744073709551616
 | 0,_,x,hx=>by cases hx
 | d+1,hd,x,hx=>by
   rw[qr] at hx;rcases List.mem_append.1 hx with hx | hx
   · exact zin h d (by omega) x hx
   · have h1:=h _ (zad (show d<l.length from hd));simp at hx;rcases hx with rfl | rfl
     · unfold qn;split
       · rename_i e;rw[e] at h1;exact h1.1
       · omega
     · omega
theorem zpx {l:List Iv} (h:Good l):vv l 1:=fun i hi=>by
 have:=ku h i hi;exact⟨this.1,fun h0=>by have:=this.2 h0;omega⟩
def zao (v:Vec) (i:Nat):Nat:=if i=0 then (zf v 0).1 else (zf v i).1 - (zf v (i - 1)).1 - 1
def vw (v:Vec) (i:Nat):List Nat:=[zao v i,(zf v i).2.1,(zf v i).2.2.length]++zd1 (zf v i).2.2 1
def vj (v:Vec):Nat→List Nat
 | 0=>[v.length]
 | d+1=>vj v d++vw v d
def km (v:Vec):List Nat:=vj v v.length
def ju (c:Kno):Nat→List Nat
 | 0=>[c.length]
 | d+1=>ju c d++km (zc c d).2
def j7 (l:List Iv) (x:List Nat):Nat→List Nat
 | 0=>[l.length]
 | d+1=>j7 l x d++[qn l 0 d,(zb l d).2 - (zb l d).1,nth x d]
def qi (c:Kno):List Nat:=ju c c.length++j7 ((zd c).map (·.1)) ((zd c).map (·.2)) (zd c).length
end
section
open Go.RowKit Go.Shelf
attribute [local go_sem] Oper.semAt_some zdb
theorem KeptT.refl (base:Nat) (T:TypeId→Prop) (A:World):KeptT base T A A:=⟨rfl,rfl,rfl,Nat.le_refl _,fun _ _ _=>rfl⟩
theorem KeptT.trans {base:Nat} {T:TypeId→Prop} {A B C:World} (h:KeptT base T A B) (k:KeptT base T B C):KeptT base T A C:=
 ⟨k.os.trans h.os,k.tape.trans h.tape,k.output.trans h.output,Nat.le_trans h.size k.size,fun i hi hp=>(k.row i (Nat.lt_of_lt_of_le hi h.size) (hp.imp id fun ⟨C,U,fr,hT,hr⟩=>⟨C,U,fr,hT,(h.row i hi (.inr ⟨C,U,fr,hT,hr⟩)).trans hr⟩)).trans (h.row i hi hp)⟩
theorem KeptT.of {base:Nat} {T:TypeId→Prop} {q:Nat→Prop} {A B:World} (h:Kept q A B) (s:Steady base T A B):KeptT base T A B:=⟨h.os,h.tape,h.output,h.size,s.row⟩
set_option maxRecDepth 20000 in
theorem zio (a:Option Addr) (n c:Nat) (v:Vec) (w:World) (hE:Ents w a n c v) (hn:n≤1000000000000) (hN:(zj v).length≤1000000000000):
 Calls Tryz.prog 191 #[.slice a n c] w fun e w'=>
  (∃y,e=.returned y∧w'.ownsRow w.heap.size 43 1 y (zj v).length (yi (zj v)))∧Below w.heap.size w w':=by
 have HE:=hid hE;have HN:=hid hN;clear hE hN;refine(callsIn_wide (n:=3)).1 ?_;refine callsIn_of_wp_marks Tryz.func191 rfl trivial ?_ rfl;simp only[Tryz.ntmps191,List.size_toArray,List.length_cons,List.length_nil,Nat.reduceAdd,Nat.reduceSub,Array.replicate_succ,Array.replicate_zero,List.push_toArray,List.append_toArray,List.nil_append,List.cons_append];refine wpIn_wide.2 ?_;go_wp2_with (go_at_call 233;refine(zpa _ _ _ _).mono ?_;rintro e w1 ⟨rfl,rfl⟩);refine(wpIn_wide (n:=3)).1 ?_;obtain⟨C0,hC0⟩:∃C0:Obj,C0=.cells #[.slice none 0 0] 41:=⟨_,rfl⟩;obtain⟨C1,hC1⟩:∃C1:Obj,C1=.cells #[.slice a n c] 95:=⟨_,rfl⟩;rw[←hC0,←hC1];have hs1:(w.alloc C0).heap.size=w.heap.size+1:=by simp
 obtain⟨wl,hwl⟩:∃wl:World,wl=(w.alloc C0).alloc C1:=⟨_,rfl⟩;rw[←hwl]
 try rw[hs1]
 have hsz:wl.heap.size=w.heap.size+2:=by rw[hwl];simp
 have hbw:Below w.heap.size w wl:=by
  rw[hwl];exact((Below.refl _ w).alloc (Nat.le_refl _) C0).alloc (by simp) C1
 have e0:wl.heap[w.heap.size]?=some C0:=by rw[hwl];exact zaz (vp rfl)
 have e1:wl.heap[w.heap.size+1]?=some C1:=by rw[hwl];exact vp (by simp)
 clear hwl
 refine zn9 (n:=3) (gf:=262) (lb:= #[.pointer (some ⟨w.heap.size+1,0,none⟩)]) rfl (enters_of Tryz.func262 (by kernel_rfl) rfl)
  (zpb (3 - 1) w wl (w.heap.size+1) a n c v HE.out hbw (by rw[e1,hC1]) hn)
  (fun x=>rfl) (fun k hk=>hk.elim) ?hput
  (fun pre W=>Below w.heap.size w W∧∃v,W.heap[w.heap.size]?=some (.cells #[v] 41)∧W.ownsRow (w.heap.size+4) 43 1 v pre.length (yi pre))
  (fun _ _ _=>False) ?hI (fun _ _ _ _ h _=>h) ⟨hbw,.slice none 0 0,by rw[e0,hC0],World.ownsRow_nil ..⟩ ?round ?done ?stop
 case hput=>
  intro A B r o hA hk;rw[hsz] at hA ⊢;refine⟨hk.os,hk.tape,hk.output,by simpa using hk.size,fun k hk1 hp=>?_⟩;refine(World.putObj_heap_other ?_).trans (hk.row k hk1 hp);rintro rfl;rcases hp with h | ⟨C,U,fr,_,h⟩
  · omega
  · rw[hA] at h;cases h
 case hI=>
  rintro s A B ⟨h4,v,h2,h3⟩ hk;have hs:=h4.size;exact⟨h4.trans (hk.toBelow (fun k hk'=>⟨id,by omega,by omega⟩) (by omega)),v,(hk.row _ (Array.getElem?_eq_some_iff.1 h2).1 ⟨id,by omega,by omega⟩).trans h2,kt h3 (fun k hk1 hk2=>hk.row k hk2 ⟨id,by omega,by omega⟩)⟩
 case round=>
  rintro pre x W ⟨rest,hV⟩ ⟨h4,y,h2,h3⟩ hsW ⟨rl,hrl⟩;rw[hsz] at hsW hrl ⊢
  have hlen:pre.length+1≤1000000000000:=by
   have:=HN.out;rw[hV,List.length_append,List.length_append,List.length_singleton] at this;omega
  clear hsz hbw e0 e1 hC0 hC1 hV
  gi_wp2
  refine⟨Kept.refl _ W,fun W2 hk2 hs2=>?_⟩;have b2:W2.heap[w.heap.size]?=some (.cells #[y] 41):=(hk2.row _ (Array.getElem?_eq_some_iff.1 h2).1 (by omega)).trans h2;have B3:=hid (kt h3 (fun k hk1 hk2'=>hk2.row k hk2' (by omega)));have B4:=hid (h4.trans (hk2.toBelow (n:=w.heap.size) (fun k hk'=>by omega) h4.size))
  have hst:Steady w.heap.size zcr W W2:=⟨hk2.size,fun k hk hp=>hk2.row k hk (by
   rintro rfl;rcases hp with h | ⟨C,U,fr,_,h⟩
   · omega
   · rw[hrl] at h;cases h)⟩
  have K2:=hid (And.intro hk2 hst);have hB4:w.heap.size+4≤W2.heap.size:=by omega
  clear hk2 h2 h3 h4 hs2 hst hrl;have hB2:=B4.out.size;obtain⟨ao,co,rfl⟩:=j1 B3.out;have q1:=ki b2;have q2:=zfa b2;have Hb2:=hid b2;clear b2;obtain⟨v',w5,hr,ho,hgr⟩:=ze9 (w.heap.size+4) (.slice ao pre.length co) pre.length pre (B3.out.alloc (.cells #[.int .u64 x] 43)) (some ⟨W2.heap.size,0,none⟩) 1 1 [x] (kw (j2 _ _ _ rfl) rfl rfl) (by omega) (by simp;omega);obtain⟨g',cap',rfl⟩:=ownsRow_succ ho;have hne:some w.heap.size≠(.slice ao pre.length co:Value).ownBlock:=fun e=>by have:=(B3.out.lt _ e.symm).1;omega
  have e5:w5.heap[w.heap.size]?=some (.cells #[.slice ao pre.length co] 41):=(hgr.block _ (by simp;omega) hne).trans (zaz Hb2.out);have q5:=ki e5;have q6:=zfa e5;have He5:=hid e5;have Ho:=hid ho;have Hgr:=hid hgr;clear e5 ho hgr hne
  gi_wp2_with (gi_at_builtin;refine zl4 rfl _ _ 41 rfl _ _ rfl rfl _ _ hr ?_)
  refine⟨?_,⟨?_,_,zho He5.out,?_⟩,?_⟩
  · exact(((Kept.refl _ W2).alloc _).grown Hgr.out (fun k hk _=>by have:=(B3.out.lt k hk).1;omega)).setCell (fun _=>by simp only;omega) _
  · exact((B4.out.alloc B4.out.size _).grown Hgr.out (by simp;omega) (fun k hk=>by have:=(B3.out.lt k hk).1;omega)).setCell (by simp only;omega) _
  · have h:=kt Ho.out (w':=w5.setCell ⟨w.heap.size,0,none⟩ (.slice (some ⟨g',0,none⟩) (pre.length+1) cap')) (fun k hk1 hk2=>Below.heap_setCell _ _ _ _ (by simp only;omega));rw[List.length_append];exact h
  · have s1:Steady w.heap.size zcr W2 (W2.alloc (.cells #[.int .u64 x] 43)):=.of_below ((Below.refl _ _).alloc (Nat.le_refl _) _);have s2:Steady w.heap.size zcr (W2.alloc (.cells #[.int .u64 x] 43)) w5:=Steady.grown (j3 (b:=w.heap.size) (B3.out.alloc _) (by omega)) Hgr.out (by rintro(h | h | h) <;> cases h);have s3:Steady w.heap.size zcr w5 (w5.setCell ⟨w.heap.size,0,none⟩ (.slice (some ⟨g',0,none⟩) (pre.length+1) cap')):=Steady.setCell (a:=⟨w.heap.size,0,none⟩) He5.out (Nat.le_refl _) (by rintro(h | h | h) <;> cases h);refine KeptT.of (q:=fun _=>False) (K2.out.1.mono (fun _ _ h=>h.elim) |>.trans ?_) (((K2.out.2.trans s1).trans s2).trans s3);exact(((Kept.refl _ W2).alloc _).grown Hgr.out (fun k hk _ h=>h)).setCell (fun _ h=>h) _
 case done=>
  rintro ps W rfl ⟨h4,y,h2,h3⟩ hK;have q1:=ki h2;have H3:=hid h3;have H4:=hid h4;clear h2 h3 h4 e0 e1
  gi_wp2
  go_wp2;refine⟨by simp,.inl ⟨_,_,rfl,run_takeDeferred hK,?_⟩⟩;refine⟨_,results_tmp rfl _ _ _,⟨y,rfl,?_⟩,?_⟩
  · refine j3 (kt H3.out (fun k hk1 hk2=>World.putObj_heap_other (by omega))) (by omega)
  · exact(Kept.refl (fun k=>k<w.heap.size) W).putObj (fun _ h=>by have h':wl.heap.size<w.heap.size:=h;omega) _ |>.toBelow (fun _ h=>h) H4.out.size |> H4.out.trans
 case stop=>
  rintro c pre W hV h;exact h.elim
end
section
def ko (l:List Int) (k:Nat):Int:=l.getD k 0
theorem zd2 {l:List Int} {k:Nat} (h:k<l.length):ko l k=l[k]:=by simp[ko,h]
def yt (l:List Vec) (k:Nat):Vec:=l.getD k []
theorem zaf {l:List Vec} {k:Nat} (h:k<l.length):yt l k=l[k]:=by simp[yt,h]
theorem zfn {l:List Vec} {k:Nat} (h:k<l.length):yt l k∈l:=by rw[zaf h];exact List.getElem_mem h
def itB (l:List Iv) (ix:List Int) (i:Nat):Nat→List Iv
 | 0=>[]
 | d+1=>itB l ix i d++if ko ix d=(i:Int) then [zb l d] else []
def zbq (vs:List Vec) (l:List Iv) (ix:List Int) (d:Nat):Kno:=(List.range vs.length).map fun i=>(itB l ix i d,yt vs i)
def zd3 (vs:List Vec) (l:List Iv) (ix:List Int):Kno:=zbq vs l ix l.length
theorem zpy {k:Kno} (hc:CanK k) {i j:Nat} (hi:i<k.length) (hj:j<k.length) (e:zc k i=zc k j):i=j:=by
 have one:∀{i j:Nat},i<j→j<k.length→zc k i=zc k j→False:=fun {i j} hij hj e=>by
  have hl:=List.pairwise_iff_getElem.1 hc.asc i j (by omega) hj hij;rw[←z7 (by omega),←z7 hj,e] at hl;unfold zcj at hl;rw[zhi] at hl;cases hl
 rcases Nat.lt_trichotomy i j with h | h | h
 · exact(one h hj e).elim
 · exact h
 · exact(one h hi e.symm).elim
def zfo (p q:Seg):Prop:=(p.1.2<q.1.1∧(p.2=q.2→p.1.2+1<q.1.1))∨(q.1.2<p.1.1∧(p.2=q.2→q.1.2+1<p.1.1))
theorem zpz {p q:Seg} (h:zfo p q):zfo q p:=by
 rcases h with ⟨h1,h2⟩ | ⟨h1,h2⟩
 · exact .inr ⟨h1,fun e=>h2 e.symm⟩
 · exact .inl ⟨h1,fun e=>h2 e.symm⟩
theorem ziq {l:List Iv} (h:Good l):l.Pairwise fun s t=>s.2+1<t.1:=by
 rw[List.pairwise_iff_getElem];intro i j hi hj hij;have:=zbm h hij hj;rwa [yr hi,yr hj] at this
theorem zp0 {k:Kno} (hc:CanK k) {i j:Nat} (hi:i<k.length) (hj:j<k.length) (hij:i≠j) {s t:Iv} (hs:s∈(zc k i).1) (ht:t∈(zc k j).1):s.2<t.1∨t.2<s.1:=by
 have h1:=(hc.items _ (jh hi)).1.ok s hs;have h2:=(hc.items _ (jh hj)).1.ok t ht;rcases Nat.lt_or_ge s.2 t.1 with h | h
 · exact .inl h
 rcases Nat.lt_or_ge t.2 s.1 with h' | h'
 · exact .inr h'
 exfalso;refine hij (zpy hc hi hj (hc.apart _ (jh hi) _ (jh hj) (max s.1 t.1) (mem_iff.2 ⟨s,hs,?_,?_⟩) (mem_iff.2 ⟨t,ht,?_,?_⟩))) <;> omega
theorem zir {k:Kno} (hc:CanK k):∀d,d≤k.length→(j5 k d).Pairwise zfo
 | 0,_=>List.Pairwise.nil
 | d+1,h=>by
   obtain⟨h1,h2,h3⟩:=k7 k d (by omega);obtain⟨-,g2⟩:=zfj h1 d (zc k d).1;have e:j5 k (d+1)=kk (j5 k d) (zc k d).1 d:=rfl;rw[e];refine(List.Perm.pairwise_iff (fun {x y} h=>zpz h) g2).2 (List.pairwise_append.2 ⟨zir hc d (by omega),?_,fun p hp q hq=>?_⟩)
   · refine List.pairwise_map.2 ((ziq (hc.items _ (jh h)).1).imp fun {s t} hst=>.inl ⟨?_,fun _=>hst⟩);simp only;omega
   · obtain⟨t,ht,rfl⟩:=List.mem_map.1 hq;obtain⟨p1,p2⟩:=h3 p hp;have hne:p.2≠d:=by omega
     rcases zp0 hc (by omega:p.2<k.length) h hne p2 ht with hh | hh
     · exact .inl ⟨hh,fun e=>absurd e hne⟩
     · exact .inr ⟨hh,fun e=>absurd e hne⟩
theorem zis {k:Kno} (hc:CanK k):(zd k).Pairwise fun p q=>p.1.2<q.1.1∧(p.2=q.2→p.1.2+1<q.1.1):=by
 obtain⟨h1,h2,h3⟩:=k7 k k.length (Nat.le_refl _);have h4:=zir hc k.length (Nat.le_refl _);have ok:∀p∈zd k,p.1.1≤p.1.2:=fun p hp=>(hc.items _ (jh (h3 p hp).1)).1.ok _ (h3 p hp).2
 rw[List.pairwise_iff_getElem] at h1 h4 ⊢;intro i j hi hj hij;have e1:=h1 i j hi hj hij;have o1:=ok _ (List.getElem_mem hi);have o2:=ok _ (List.getElem_mem hj);unfold zd at o1 o2 ⊢;rcases h4 i j hi hj hij with h | h
 · exact h
 · exact absurd h.1 (by omega)
def za8 (k:Kno):List Iv:=(zd k).map (·.1)
def zbr (k:Kno):List Int:=(zd k).map fun p=>(p.2:Int)
theorem zfp (k:Kno):(za8 k).length=(zd k).length:=by simp[za8]
theorem zp1 (k:Kno):(zbr k).length=(zd k).length:=by simp[zbr]
theorem zd4 {k:Kno} {i:Nat} (h:i<(zd k).length):zb (za8 k) i=(zd k)[i].1:=by rw[yr (by rw[zfp];exact h)];simp[za8]
theorem zp2 {k:Kno} {i:Nat} (h:i<(zd k).length):ko (zbr k) i=((zd k)[i].2:Int):=by rw[zd2 (by rw[zp1];exact h)];simp[zbr]
theorem zit (k:Kno) (i:Nat):∀d,d≤(zd k).length→itB (za8 k) (zbr k) i d=(((zd k).take d).filter fun p=>decide (p.2=i)).map (·.1)
 | 0,_=>by simp[itB]
 | d+1,h=>by
   rw[itB,zit k i d (by omega),zd4 h,zp2 h,List.take_succ_eq_append_getElem h,List.filter_append,List.map_append];congr 1;by_cases e:(zd k)[d].2=i
   · rw[if_pos (by omega),List.filter_cons_of_pos (by simpa using e)];rfl
   · rw[if_neg (by omega),List.filter_cons_of_neg (by simpa using e)];rfl
theorem ziu (k:Kno) (i:Nat):∀d,d≤k.length→(((j5 k d).filter fun p=>decide (p.2=i)).map (·.1)).Perm (if i<d then (zc k i).1 else [])
 | 0,_=>by simp[j5]
 | d+1,h=>by
   obtain⟨h1,h2,h3⟩:=k7 k d (by omega);obtain⟨-,g2⟩:=zfj h1 d (zc k d).1;have e:j5 k (d+1)=kk (j5 k d) (zc k d).1 d:=rfl;rw[e];refine((g2.filter _).map _).trans ?_;rw[List.filter_append,List.map_append];have ih:=ziu k i d (by omega);refine(ih.append_right _).trans ?_;by_cases hd:d=i
   · subst hd;rw[if_neg (by omega),if_pos (by omega),List.filter_eq_self.2 (fun a ha=>by obtain⟨s,_,rfl⟩:=List.mem_map.1 ha;simp),List.map_map];simp[Function.comp_def]
   · rw[List.filter_eq_nil_iff.2 (fun a ha=>by obtain⟨s,_,rfl⟩:=List.mem_map.1 ha;simpa using hd)];by_cases hi:i<d
     · rw[if_pos hi,if_pos (by omega)];simp
     · rw[if_neg hi,if_neg (by omega)];simp
theorem zp3 {k:Kno} (hc:CanK k):zd3 (k.map (·.2)) (za8 k) (zbr k)=k:=by
 obtain⟨h1,h2,h3⟩:=k7 k k.length (Nat.le_refl _);unfold zd3 zbq;refine List.ext_getElem (by simp) fun i hi hi'=>?_
 rw[List.getElem_map,List.getElem_range,zfp,zit k i _ (Nat.le_refl _),List.take_length];have hp:=ziu k i k.length (Nat.le_refl _);rw[if_pos hi'] at hp;have hgood:=(hc.items _ (jh hi')).1
 have e:((zd k).filter fun p=>decide (p.2=i)).map (·.1)=(zc k i).1:=by
  refine zfk (f:=(·.1)) hp (List.pairwise_map.2 (h1.filter _)) ?_ fun s hs t ht e=>?_
  · refine(ziq hgood).imp_of_mem fun {s t} hs ht hst=>?_
    have:=hgood.ok s hs;omega
  · exact zil hgood (hp.mem_iff.1 hs) (hp.mem_iff.1 ht) e
 rw[e,zaf (by simpa using hi'),List.getElem_map,z7 hi']
theorem ziv (vs:List Vec) (l:List Iv) (ix:List Int) (d:Nat):(zbq vs l ix d).length=vs.length:=by simp[zbq]
theorem zp4 {vs:List Vec} {l:List Iv} {ix:List Int} {d i:Nat} (h:i<vs.length):zc (zbq vs l ix d) i=(itB l ix i d,yt vs i):=by
 rw[z7 (by rw[ziv];exact h)];simp[zbq]
theorem zfq (l:List Iv) (ix:List Int) (i:Nat):∀d,(itB l ix i d).length≤d
 | 0=>by simp[itB]
 | d+1=>by
   have:=zfq l ix i d;rw[itB,List.length_append];split <;> simp <;> omega
theorem ziw {l:List Iv} {ix:List Int} {i:Nat} {s:Iv}:∀{d},d≤l.length→s∈itB l ix i d→s∈l
 | 0,_,h=>by cases h
 | d+1,hd,h=>by
   rw[itB] at h;rcases List.mem_append.1 h with h | h
   · exact ziw (by omega) h
   · split at h
     · rw[List.mem_singleton] at h;rw[h];exact zad hd
     · cases h
end
section
open Go.RowKit
theorem zfr {c:Nat} (a:Nat) (h:c≠0):zbk (c:Int) (a:Int)=some ((c:Int),some (a:Int)):=by
 unfold zbk;rw[if_neg (by omega)]
theorem zp5 (r:Nat) (e:Ent) (s:Value) (w:World):Calls Tryz.prog 171 #[.int .u64 r,zdn e s] w fun x w'=>x=.returned (.int .i64 (Lib.compareInt (e.1:Int) (r:Int)))∧Below w.heap.size w w':=by
 obtain⟨er,em,eh⟩:=e;obtain⟨q0,q1,q2⟩:=zco w (.int .u64 er) (.int .u64 em) s 93 _ (Below.refl _ _);have Hal:=hid ((Below.refl w.heap.size w).alloc (Nat.le_refl _) (.cells #[.int .u64 er,.int .u64 em,s] 93));go_enter Tryz.func171,Tryz.ntmps171;go_wp2_with fail;refine(zgk er r _).mono ?_;rintro e w1 ⟨rfl,rfl⟩;go_wp2;go_ret;exact⟨rfl,Hal.out⟩
set_option maxRecDepth 20000 in
theorem zp6 (a:Option Addr) (n cap:Nat) (v:Vec) (w:World) (hE:Ents w a n cap v) (hD:Door w):
 Calls Tryz.prog 125 #[.slice a n cap] w fun x w'=>x=.returned (zh (js (ckV v)))∧Below w.heap.size w w':=by
 have HE:=hid hE;have HD:=hid hD;have Hl:=hid hE.len;have hm:n≤9223372036854775807:=Nat.le_trans hE.room hE.most;have Hck:=hid (show ckV v=qy (zcp v) v.length from rfl);clear hE hD;go_enter Tryz.func125,Tryz.ntmps125;go_wp2;go_loopw [3,4,5,8] (fun _ _ _ i wr=>∃k:Nat,k≤n∧i=.int .i64 k∧Below w.heap.size w wr∧Hid (∀j,j<k→zcp v j=none)) (fun _ _ _ i _=>n - (intOf i).toNat)
 case atStart=>exact⟨0,by omega,rfl,Below.refl _ _,fun j h=>by omega⟩
 case round=>
  obtain⟨k,hk,rfl,hb,ht⟩:=hrel;have Hb:=hid hb;clear hb;by_cases hkn:k<n
  · have hkv:k<v.length:=by rw[Hl.out];exact hkn
    have HEr:=hid (HE.out.below Hb.out);obtain⟨bb,oo,rfl⟩:=HEr.out.some (by omega);obtain⟨x,m,c,hq⟩:=HEr.out.fix hkn;have Hat:=hid (show zcp v k=match ckE (zf v k) with | some x=>some (x.1,k) | none=>if 0<k∧(zf v k).1≤(zf v (k - 1)).1 then some (3,k) else none from rfl);have Hp:=hid (show 0<k→∀w',Below wr.heap.size wr w'→w'.cell? ⟨bb,oo+(k - 1)*3,none⟩=some (.int .u64 (((zf v (k - 1)).1:Nat):Int)) from fun h0 w' h=>(HEr.out.at (k:=k - 1) (by omega) w' h).1);generalize zf v k=e at*;generalize zf v (k - 1)=p at*;have h0:(0:Int)≤k:=by omega
    have h04:(k:Int)<(n:Int):=by omega
    obtain⟨q1,q2,q3,-⟩:=hq _ (Below.refl _ _);have hal:Below wr.heap.size wr (wr.alloc (.cells #[.int .u64 e.1,.int .u64 e.2.1,.slice x m c] 93)):=(Below.refl _ _).alloc (Nat.le_refl _) _;have HX:=hid (zco wr (.int .u64 e.1) (.int .u64 e.2.1) (.slice x m c) 93);have hDa:=HD.out.below (Nat.le_refl _) (Hb.out.trans (hal.mono Hb.out.size));have hC:=hid (zpe e x m c (wr.alloc (.cells #[.int .u64 e.1,.int .u64 e.2.1,.slice x m c] 93)) (hq _ hal).2.2.2 hDa);have Hal:=hid hal;have HalW:=hid (Hb.out.trans (hal.mono Hb.out.size));clear hq hal hDa;obtain⟨er,em,eh⟩:=e;obtain⟨pr,pm,ph⟩:=p;simp only at q1 q2 q3 Hp Hat hC HX Hal HalW
    cases h:ckE (er,em,eh) with
    | some y=>
     obtain⟨cd,ci⟩:=y;rw[h] at Hat hC;simp only[js,zh] at Hat hC;have hc0:=zh2 h;simp only at hc0;have Hr:=hid (zak hkv ht.out Hat.out);clear h;go_wp2_with fail;refine hC.out.mono ?_;rintro z w1 ⟨rfl,hb1⟩;have Hb1:=hid (HalW.out.trans (hb1.mono HalW.out.size));clear hb1;go_wp2_with fail;refine(kx (some ((cd:Int),some (ci:Int))) _ (HD.out.below (Nat.le_refl _) Hb1.out)).mono ?_;rintro z w2 ⟨rfl,hb2⟩;have Hb2:=hid (Hb1.out.trans (hb2.mono Hb1.out.size));clear hb2;simp only[kh];go_wp2_with fail;refine(qm cd k _).mono ?_;rintro z w3 ⟨rfl,rfl⟩;go_wp2;go_ret
     exact⟨by rw[Hck.out,Hr.out];show _=Ending.returned (zh (some ((cd:Int),some (k:Int))));rw[←zfr k hc0];rfl,Hb2.out⟩
    | none=>
     rw[h] at Hat hC;simp only[js,zh] at Hat hC;clear h;go_wp2_with fail;refine hC.out.mono ?_;rintro z w1 ⟨rfl,hb1⟩;have Hb1:=hid hb1;have Hw1:=hid (HalW.out.trans (hb1.mono HalW.out.size));clear hb1;by_cases hk0:0<k
     · have hg:decide (0<(k:Int))=true:=by rw[decide_eq_true_iff];omega
       have hsub:IntKind.i64.wrap ((k:Int) - 1)=((k - 1:Nat):Int):=by rw[IntKind.wrap_i64];omega
       have h01:(0:Int)≤((k - 1:Nat):Int):=by omega
       have h03:((k - 1:Nat):Int)<(n:Int):=by omega
       have HX1:=hid (fun w' (h:Below w1.heap.size w1 w')=>HX.out w' (Hb1.out.trans (h.mono Hb1.out.size)));have HP1:=hid (fun w' (h:Below w1.heap.size w1 w')=>Hp.out hk0 w' (Hal.out.trans ((Hb1.out.trans (h.mono Hb1.out.size)).mono Hal.out.size)));have hK:=hid (fun w'=>zp5 pr (er,em,eh) (.slice x m c) w');generalize k - 1=k1 at*;by_cases hle:er≤pr
       · have Hr:=hid (zak hkv ht.out (Hat.out.trans (if_pos ⟨hk0,hle⟩)))
         have hci:decide (Lib.compareInt (er:Int) (pr:Int)≤0)=true:=by
          unfold Lib.compareInt;rw[decide_eq_true_iff];split
          · omega
          · rw[if_neg (by omega)];omega
         generalize Lib.compareInt (er:Int) (pr:Int)=ci at*;clear hle;go_wp2_with fail;go_cut [33] (fun t wc=>t=.bool true∧Hid (Below w1.heap.size w1 wc))
         case first=>
          refine zae (by kernel_rfl) (by kernel_rfl) ?_
          repeat (go_big_quiet_step ((intro hw;first
           | rfl
           | (have q0:=HX1.out _ hw
              have q1:=q0.1;have q2:=q0.2.1;have q3:=q0.2.2;have q4:=HP1.out _ hw;clear q0
              first
              | (go_at_call 171;exact za2 hw (hK.out _))
              | (go_simp
                 first | rfl | exact⟨rfl,hw⟩ | (trace_state;fail))))))
          refine wpQuiet_nil ?_;intro w3 hb3;go_wp2;go_meet
          exact⟨rfl,hb3⟩
         case rest=>
          obtain⟨rfl,hb2⟩:=hcut;have Hb2:=hid (Hw1.out.trans (hb2.out.mono Hw1.out.size));clear hb2;go_wp2_with fail;refine(qm 3 k _).mono ?_;rintro z w3 ⟨rfl,rfl⟩;go_wp2;go_ret;exact⟨by rw[Hck.out,Hr.out];rfl,Hb2.out⟩
       · have Hr:=hid (zc9 ht.out (Hat.out.trans (if_neg (fun h=>hle h.2))))
         have hci:decide (Lib.compareInt (er:Int) (pr:Int)≤0)=false:=by
          unfold Lib.compareInt;rw[decide_eq_false_iff_not,if_neg (by omega),if_pos (by omega)];omega
         generalize Lib.compareInt (er:Int) (pr:Int)=ci at*;clear hle;go_wp2_with fail;go_cut [33] (fun t wc=>t=.bool false∧Hid (Below w1.heap.size w1 wc))
         case first=>
          refine zae (by kernel_rfl) (by kernel_rfl) ?_
          repeat (go_big_quiet_step ((intro hw;first
           | rfl
           | (have q0:=HX1.out _ hw
              have q1:=q0.1;have q2:=q0.2.1;have q3:=q0.2.2;have q4:=HP1.out _ hw;clear q0
              first
              | (go_at_call 171;exact za2 hw (hK.out _))
              | (go_simp
                 first | rfl | exact⟨rfl,hw⟩ | (trace_state;fail))))))
          refine wpQuiet_nil ?_;intro w3 hb3;go_wp2;go_meet
          exact⟨rfl,hb3⟩
         case rest=>
          obtain⟨rfl,hb2⟩:=hcut;have Hb2:=hid (Hw1.out.trans (hb2.out.mono Hw1.out.size));clear hb2;go_wp2;go_roundw
          case rel=>exact⟨k+1,by omega,by go_num,Hb2.out,Hr.out⟩
          case measure=>simp[intOf];omega
     · have hg:decide (0<(k:Int))=false:=by rw[decide_eq_false_iff_not];omega
       have hgn:decide (0<k)=false:=by rw[decide_eq_false_iff_not];exact hk0
       have Hr:=hid (zc9 ht.out (Hat.out.trans (if_neg (fun h=>hk0 h.1))));clear hk0;go_wp2;go_quiet (fail);go_wp2;go_roundw
       case rel=>exact⟨k+1,by omega,by go_num,by first | exact Hw1.out | exact zv Hw1.out _,Hr.out⟩
       case measure=>simp[intOf];omega
  · obtain rfl:k=n:=by omega
    have Hr:=hid (zdu (n:=v.length) (fun j hj=>ht.out j (by rw[←Hl.out];exact hj)));go_wp2;go_ret;exact⟨by rw[Hck.out,Hr.out];rfl,Hb.out⟩
end
section
open Go.RowKit Go.Shelf
attribute [local go_sem] Oper.semAt_some zdb
theorem zp7 (B:Nat) (y:Value) (xs:List Nat) (i:Nat) (s1 s2:Value) (w:World) (ho:w.ownsRow B 3 1 y xs.length (yj xs)) (hB:B≤w.heap.size) (hn:xs.length≤1000):
 Calls Tryz.prog 250 #[y,.int .i64 ((i:Nat):Int),.agg #[s1,s2]] w fun e w'=>(∃v,e=.returned v∧w'.ownsRow B 3 1 v (xs++[i]).length (yj (xs++[i])))∧Below B w w':=by
 have hal:Below w.heap.size w (w.alloc (.cells #[s1,s2] 97)):=(Below.refl _ _).alloc (Nat.le_refl _) _;have Ho:=hid (zx ho hal);have Hal:=hid (hal.mono hB);have Hlt:=hid ((zx ho hal).lt);obtain⟨ao,co,rfl⟩:=j1 ho;clear ho hal;go_enter Tryz.func250,Tryz.ntmps250;go_wp2_with (at_builtin;refine zn2 rfl (.tmp 7) (.tmp 9) rfl rfl B _ _ xs rfl (Ho.out.alloc _) _ 1 _ [i] rfl (kw (j2 _ _ _ (by simp)) rfl rfl) (by omega) (by simp;omega) ?_;intro v' w8 ho8 hg8);go_ret;refine⟨⟨v',rfl,?_⟩,Below.grown (B:=B) (Hal.out.alloc (by simp;omega) _) hg8 (by simp;omega) (fun k hk=>(Hlt.out k hk).1)⟩;rw[List.length_append];exact ho8
set_option maxRecDepth 20000 in
theorem zp8 (w0 w:World) (bk bt:Nat) (a:Option Addr) (m c t:Nat) (k:Kno) (hE:Frags w0 a m c k) (hG:∀f∈k,Good f.1∧f.1.length≤1000000) (hb0:Below w0.heap.size w0 w) (hm:m≤500)
 (hbk:w.heap[bk]?=some (.cells #[.slice a m c] 27)) (hbt:w.heap[bt]?=some (.cells #[.int .u64 t] 43)):
 Calls Tryz.prog 249 #[.func (.func 251) #[] #[.pointer (some ⟨bk,0,none⟩),.pointer (some ⟨bt,0,none⟩)],.slice none 0 0,.func (.func 250) #[] #[]] w fun e w'=>
  (∃y,e=.returned y∧w'.ownsRow w.heap.size 3 1 y (jo k t).length (yj (jo k t)))∧Below w.heap.size w w':=by
 have Hml:=hid (show (jo k t).length≤500 from by
  have:=zo0 k t k.length;have h2:jo k t=vt k t k.length:=rfl;rw[h2];have:=hE.len;omega)
 have hbkl:=(Array.getElem?_eq_some_iff.1 hbk).1;have hbtl:=(Array.getElem?_eq_some_iff.1 hbt).1;have hs0:=hb0.size;refine(callsIn_wide (n:=3)).1 ?_;refine callsIn_of_wp_marks Tryz.func249 rfl trivial ?_ rfl;simp only[Tryz.ntmps249,List.size_toArray,List.length_cons,List.length_nil,Nat.reduceAdd,Nat.reduceSub,Array.replicate_succ,Array.replicate_zero,List.push_toArray,List.append_toArray,List.nil_append,List.cons_append];refine wpIn_wide.2 ?_;go_wp2;refine(wpIn_wide (n:=3)).1 ?_;obtain⟨C0,hC0⟩:∃C0:Obj,C0=.cells #[.slice none 0 0] 60:=⟨_,rfl⟩;obtain⟨C1,hC1⟩:∃C1:Obj,C1=.cells #[.func (.func 250) #[] #[]] 343:=⟨_,rfl⟩;rw[←hC0,←hC1];obtain⟨wl,hwl⟩:∃wl:World,wl=(w.alloc C0).alloc C1:=⟨_,rfl⟩;rw[←hwl];have hsz:wl.heap.size=w.heap.size+2:=by rw[hwl];simp
 have hbw:Below w.heap.size w wl:=by
  rw[hwl];exact((Below.refl _ w).alloc (Nat.le_refl _) C0).alloc (by simp) C1
 have e0:wl.heap[w.heap.size]?=some C0:=by rw[hwl];exact zaz (vp rfl)
 have e1:wl.heap[w.heap.size+1]?=some C1:=by rw[hwl];exact vp (by simp)
 clear hwl
 refine zn7 (n:=3) (gf:=251) (lb:= #[.pointer (some ⟨bk,0,none⟩),.pointer (some ⟨bt,0,none⟩)]) rfl (enters_of Tryz.func251 (by kernel_rfl) rfl)
  (zpl (3 - 1) w0 wl bk bt a m c t k hE hG (hb0.trans (hbw.mono hs0)) hm ((hbw.block _ hbkl).trans hbk) ((hbw.block _ hbtl).trans hbt))
  (fun x=>rfl) (fun k hk=>hk.elim) (fun k hk=>by omega)
  (fun pre W=>Below w.heap.size w W∧W.heap[w.heap.size+1]?=some C1∧∃v,W.heap[w.heap.size]?=some (.cells #[v] 60)∧W.ownsRow (w.heap.size+4) 3 1 v (pre.map (·.1)).length (yj (pre.map (·.1))))
  (fun _ _ _=>False) ?hI (fun _ _ _ _ h _=>h) ⟨hbw,e1,.slice none 0 0,by rw[e0,hC0],World.ownsRow_nil ..⟩ ?round ?done ?stop
 case hI=>
  rintro s A B ⟨h4,h1,v,h2,h3⟩ hk;have hs:=h4.size;exact⟨h4.trans (hk.toBelow (fun k hk'=>⟨id,by omega,by omega⟩) (by omega)),(hk.row _ (Array.getElem?_eq_some_iff.1 h1).1 ⟨id,by omega,by omega⟩).trans h1,v,(hk.row _ (Array.getElem?_eq_some_iff.1 h2).1 ⟨id,by omega,by omega⟩).trans h2,kt h3 (fun k hk1 hk2=>hk.row k hk2 ⟨id,by omega,by omega⟩)⟩
 case round=>
  rintro pre ⟨i,s1,s2⟩ W ⟨⟨rest,hV⟩,hsl⟩ ⟨h4,h1,y,h2,h3⟩ hsW;obtain⟨⟨a1,n1,z1,e1',-⟩,a2,n2,z2,e2',-⟩:=hsl (i,s1,s2) (by simp);simp only at e1' e2';subst e1' e2';clear hsl;rw[hsz] at hsW ⊢
  have hlen:(pre.map (·.1)).length+1≤500:=by
   have:=Hml.out;rw[hV,List.length_append,List.map_append,List.length_append] at this;simp at this ⊢;omega
  clear hsz hbw e0 e1 hC0 hV hE hG hbk hbt hb0;simp only[zfl];obtain⟨q,hq⟩:∃q:Nat,q=W.heap.size:=⟨_,rfl⟩
  gi_wp2
  refine⟨(Kept.refl _ W).alloc _,fun W2 hk2 hs2=>?_⟩
  try rw[World.size_alloc] at hs2
  have k1:Kept (fun k=>k≠w.heap.size+2+1) W W2:=((Kept.refl _ W).alloc _).trans hk2;have b1:W2.heap[w.heap.size+1]?=some C1:=(k1.row _ (Array.getElem?_eq_some_iff.1 h1).1 (by omega)).trans h1;have b2:W2.heap[w.heap.size]?=some (.cells #[y] 60):=(k1.row _ (Array.getElem?_eq_some_iff.1 h2).1 (by omega)).trans h2;have b4:W2.heap[q]?=some (.cells #[.slice a1 n1 z1,.slice a2 n2 z2] 97):=by rw[hq];exact(hk2.row _ (by simp) (by omega)).trans (vp rfl)
  have B3:=hid (kt h3 (fun k hk1 hk2=>k1.row k hk2 (by omega)));have B4:=hid (h4.trans (k1.toBelow (n:=w.heap.size) (fun k hk'=>by omega) h4.size));rw[←hq];have hB4:w.heap.size+4≤W2.heap.size:=by omega
  have Hb1:=hid b1;have Hb2:=hid b2;rw[hC1] at b1;have c0:=ki b1;have c1:=ki b2;have c2:W2.cell? ⟨q,0,none⟩=some (.slice a1 n1 z1):=j0 (i:=0) b4 rfl;have c3:W2.cell? ⟨q,1,none⟩=some (.slice a2 n2 z2):=j0 (i:=1) b4 rfl;have HC1:=hid hC1;clear k1 hk2 hs2 h1 h2 h3 h4 b1 b2 b4 hq hsW hC1;have hF:=hid (zp7 (w.heap.size+4) y (pre.map (·.1)) i (.slice a1 n1 z1) (.slice a2 n2 z2) W2 B3.out hB4 (by omega))
  gi_wp2_with fail
  refine(CallsIn.inRound _ (callsIn_wide.2 hF.out)).mono ?_;rintro e w3 ⟨⟨v,rfl,ho3⟩,hb3⟩;have d2:=(hb3.block _ (by omega)).trans Hb2.out;have d1:=(hb3.block _ (by omega)).trans Hb1.out;have q5:=ki d2;have q6:=zfa d2;have Hd2:=hid d2;have Hd1:=hid d1;have Ho3:=hid ho3;have Hb3:=hid hb3;obtain⟨av,cv,rfl⟩:=j1 ho3;clear c0 c1 c2 c3 d1 d2 ho3 hb3
  gi_wp2
  refine⟨?_,?_,?_,_,zho Hd2.out,?_⟩
  · exact((znp Hb3.out).mono (fun k _ hk=>by omega)).setCell (fun _=>by simp only;omega) _
  · exact(B4.out.trans (Hb3.out.mono (by omega))).setCell (Nat.le_refl _) _
  · have h:=Hd1.out;rw[HC1.out] at h;exact(Below.heap_setCell _ _ _ _ (by simp)).trans h
  · have h:=kt Ho3.out (w':=w3.setCell ⟨w.heap.size,0,none⟩ (.slice av (pre.map (·.1)++[i]).length cv)) (fun k hk1 hk2=>Below.heap_setCell _ _ _ _ (by simp only;omega));simpa using h
 case done=>
  rintro ps W ⟨hS,-⟩ ⟨h4,h1,y,h2,h3⟩ hK;have q1:=ki h2;rw[←hS] at h3;have H3:=hid h3;have H4:=hid h4;clear h1 h2 h3 h4 e0 e1 hS
  gi_wp2
  go_wp2;refine⟨by simp,.inl ⟨_,_,rfl,run_takeDeferred hK,?_⟩⟩;refine⟨_,results_tmp rfl _ _ _,⟨y,rfl,?_⟩,?_⟩
  · refine j3 (kt H3.out (fun k hk1 hk2=>World.putObj_heap_other (by omega))) (by omega)
  · exact(Kept.refl (fun k=>k<w.heap.size) W).putObj (fun _ h=>by have h':wl.heap.size<w.heap.size:=h;omega) _ |>.toBelow (fun _ h=>h) H4.out.size |> H4.out.trans
 case stop=>
  rintro c pre W hV h;exact h.elim
theorem zp9 (a:Option Addr) (m c t:Nat) (k:Kno) (w:World) (hE:Frags w a m c k) (hG:∀f∈k,Good f.1∧f.1.length≤1000000) (hm:m≤500):
 Calls Tryz.prog 211 #[.slice a m c,.int .u64 t] w fun e w'=>
  (∃y,e=.returned y∧w'.ownsRow w.heap.size 3 1 y (jo k t).length (yj (jo k t)))∧Below w.heap.size w w':=by
 have hal:Below w.heap.size w ((w.alloc (.cells #[.slice a m c] 27)).alloc (.cells #[.int .u64 t] 43)):=((Below.refl _ _).alloc (Nat.le_refl _) _).alloc (by simp) _;have hC:=hid (zp8 w ((w.alloc (.cells #[.slice a m c] 27)).alloc (.cells #[.int .u64 t] 43)) w.heap.size (w.heap.size+1) a m c t k hE hG hal hm (zaz (vp rfl)) (vp (by simp)));have Hal:=hid hal;clear hE hG hal;go_enter Tryz.func211,Tryz.ntmps211;go_wp2_with fail;refine(zpj a m c t _).mono ?_;rintro e w1 ⟨rfl,rfl⟩;go_wp2_with fail;refine hC.out.mono ?_;rintro e w2 ⟨⟨y,rfl,ho⟩,hb⟩;have Ho:=hid ho;have Hb:=hid hb;clear ho hb;go_wp2;go_ret;exact⟨⟨y,rfl,j3 Ho.out Hal.out.size⟩,Hal.out.trans (Hb.out.mono Hal.out.size)⟩
end
