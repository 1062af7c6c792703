/- Walks and laws, joined: Wb11. -/
import Derived.Test.YtdnjfnofjaoajaaGreatDoorWb10
set_option linter.unusedVariables false
set_option maxHeartbeats 16000000
namespace Go.Proofs.YtdnjfnofjaoajaaGreatDoor
open Lib (hid)
section
open Go.RowKit
attribute [local go_sem] vq
theorem z19 (ao al x:Nat) (w:World) (h:al+x<18446744073709551616) (ha:ao<1000):
 Calls Tryz.prog 237 #[.agg #[.int .u64 (ao:Int),.int .u64 (al:Int)],.agg #[.int .u64 0,.int .u64 (x:Int)]] w fun e w'=>e=.returned (.agg #[.int .u64 (ao:Int),.int .u64 ((al+x:Nat):Int)])∧Below w.heap.size w w':=by
 have k1:IntKind.u64.wrap ((al:Int)+(x:Int))=((al+x:Nat):Int):=by rw[IntKind.wrap_u64];omega
 have k2:decide (((al+x:Nat):Int)<(al:Int))=false:=by rw[decide_eq_false_iff_not];omega
 have k3:decide (al+x<al)=false:=by rw[decide_eq_false_iff_not];omega
 clear h;go_enter Tryz.func237,Tryz.ntmps237;go_wp2_with fail;exact bodyPost_ret (v:=.agg #[.int .u64 (ao:Int),.int .u64 ((al+x:Nat):Int)]) (by simp[results,Tryz.results237,go_sem]) rfl ⟨rfl,((((Below.refl _ _).alloc (Nat.le_refl _) _).alloc (by simp) _).alloc (by simp;omega) _).alloc (by simp;omega) _⟩
theorem z2a (ao al x:Nat) (w:World) (h:¬al+x<18446744073709551616) (ha:ao<1000) (h1:al<18446744073709551616) (h2:x<18446744073709551616):
 Calls Tryz.prog 237 #[.agg #[.int .u64 (ao:Int),.int .u64 (al:Int)],.agg #[.int .u64 0,.int .u64 (x:Int)]] w fun e w'=>e=.returned (.agg #[.int .u64 ((ao+1:Nat):Int),.int .u64 ((al+x - 18446744073709551616:Nat):Int)])∧Below w.heap.size w w':=by
 have k1:IntKind.u64.wrap ((al:Int)+(x:Int))=((al+x - 18446744073709551616:Nat):Int):=by rw[IntKind.wrap_u64];omega
 have k2:decide (((al+x - 18446744073709551616:Nat):Int)<(al:Int))=true:=by rw[decide_eq_true_iff];omega
 have k3:decide (al+x - 18446744073709551616<al)=true:=by rw[decide_eq_true_iff];omega
 clear h h1 h2;generalize al+x - 18446744073709551616=y at*;go_enter Tryz.func237,Tryz.ntmps237;go_wp2_with fail;exact bodyPost_ret (v:=.agg #[.int .u64 ((ao+1:Nat):Int),.int .u64 (y:Int)]) (by simp[results,Tryz.results237,go_sem]) rfl ⟨rfl,((((Below.refl _ _).alloc (Nat.le_refl _) _).alloc (by simp) _).alloc (by simp;omega) _).alloc (by simp;omega) _⟩
def zbt (s:Nat):Value:=if s<18446744073709551616 then .tuple #[.int .u64 ((s:Nat):Int),.bool true] else .tuple #[.int .u64 0,.bool false]
theorem z2b (l:List Nat) (k:Nat) (h:k<l.length):(l.take (k+1)).sum=(l.take k).sum+nth l k:=by
 rw[zmf l k h,List.sum_append];simp
set_option maxRecDepth 20000 in
theorem z2c (A:Option Addr) (n cp:Nat) (l:List Nat) (w:World) (hR:Rd w 1 A n (zi l)) (hl:l.length=n) (h64:∀x∈l,x<18446744073709551616) (hn:n≤10):
 Calls Tryz.prog 193 #[.slice A n cp] w fun e w'=>e=.returned (zbt l.sum)∧Below w.heap.size w w':=by
 have HR:=hid hR;have Hl:=hid hl;have H64:=hid h64;clear hR hl h64;go_enter Tryz.func193,Tryz.ntmps193;go_wp2_with fail;have Hb0:=hid ((Below.refl w.heap.size w).alloc (Nat.le_refl _) (.cells #[.int .u64 0,.int .u64 0] 326));have Hr0:=hid (zcd w 326 [.int .u64 0,.int .u64 0]);generalize w.alloc (.cells #[.int .u64 0,.int .u64 0] 326)=w0 at*;obtain⟨g,hg⟩:∃g,g=w.heap.size:=⟨_,rfl⟩;have Hg:=hid hg;rw[←hg] at Hr0 Hb0 ⊢;clear hg;go_loopw [6,9] (fun _ i wr=>∃k ao al:Nat,k≤n∧i=.int .i64 k∧Below g w wr∧Hid (Row wr g 326 [.int .u64 (ao:Int),.int .u64 (al:Int)])∧Hid (ao≤k∧al<18446744073709551616∧ao*18446744073709551616+al=(l.take k).sum)) (fun _ i _=>n - (intOf i).toNat)
 case atStart=>exact⟨0,0,0,by omega,rfl,Hb0.out,Hr0.out,Nat.le_refl _,by omega,rfl⟩
 case round=>
  obtain⟨k,ao,al,hk,rfl,hb,hr,hs⟩:=hrel;have Hb:=hid hb;clear hb;have q0:=hr.out.cell 0 rfl;have q1:=hr.out.cell 1 rfl;have z0:=hr.out.fz 0;have z1:=hr.out.fz 1;obtain⟨s1,s2,s3⟩:=hs.out;have Hs3:=hid s3;have s1':ao<1000:=by omega
  have Hs1:=hid s1;have Hs2:=hid s2;clear s3 s1 s2 hs;by_cases hkn:k<n
  · obtain⟨bb,oo,rfl,hc⟩:=(HR.out.below (show Below w.heap.size w wr from by rw[←Hg.out];exact Hb.out)).2 (by omega);have qx:=hc k _ (zen l k (by rw[Hl.out];exact hkn));have hxl:=H64.out _ (za5 (show k<l.length by rw[Hl.out];exact hkn));have Hst:=hid (z2b l k (by rw[Hl.out];exact hkn));clear hc;generalize nth l k=x at*;have Hx:=hid hxl;clear hxl;by_cases hlo:al+x<18446744073709551616
    · have HP:=hid (z19 ao al x wr hlo s1');have Hlo:=hid hlo;clear hlo;go_wp2_with fail;refine HP.out.mono ?_;rintro e w2 ⟨rfl,hb2⟩;have Hr2:=hid (((hr.out.later hb2).set 0 (.int .u64 (ao:Int))).set 1 (.int .u64 ((al+x:Nat):Int)));have f0:=(hr.out.later hb2).fz 0;have f1:=(hr.out.later hb2).fz 1;have p0:=(hr.out.later hb2).cell 0 rfl;have p1:=(hr.out.later hb2).cell 1 rfl;have Hb2:=hid (((Hb.out.trans (hb2.mono (Nat.le_trans (Nat.le_of_eq Hg.out) (by have:=hr.out.lt;have:=Hg.out;omega)))).setCell (p:=⟨g,0,none⟩) (Nat.le_refl _) (.int .u64 (ao:Int))).setCell (p:=⟨g,1,none⟩) (Nat.le_refl _) (.int .u64 ((al+x:Nat):Int)));clear hb2;go_wp2_with fail;go_roundw
      case rel=>exact⟨k+1,ao,al+x,by omega,by go_num,Hb2.out,Hr2.out,by have:=Hs1.out;omega,Hlo.out,by rw[Hst.out,←Hs3.out];omega⟩
      case measure=>simp[intOf];omega
    · have HP:=hid (z2a ao al x wr hlo s1' Hs2.out Hx.out);have Hlo:=hid hlo;clear hlo;go_wp2_with fail;refine HP.out.mono ?_;rintro e w2 ⟨rfl,hb2⟩;have Hr2:=hid (((hr.out.later hb2).set 0 (.int .u64 ((ao+1:Nat):Int))).set 1 (.int .u64 ((al+x - 18446744073709551616:Nat):Int)));have f0:=(hr.out.later hb2).fz 0;have f1:=(hr.out.later hb2).fz 1;have p0:=(hr.out.later hb2).cell 0 rfl;have p1:=(hr.out.later hb2).cell 1 rfl;have Hb2:=hid (((Hb.out.trans (hb2.mono (Nat.le_trans (Nat.le_of_eq Hg.out) (by have:=hr.out.lt;have:=Hg.out;omega)))).setCell (p:=⟨g,0,none⟩) (Nat.le_refl _) (.int .u64 ((ao+1:Nat):Int))).setCell (p:=⟨g,1,none⟩) (Nat.le_refl _) (.int .u64 ((al+x - 18446744073709551616:Nat):Int)));have Hy:=hid (show ao+1≤k+1∧al+x - 18446744073709551616<18446744073709551616∧(ao+1)*18446744073709551616+(al+x - 18446744073709551616)=ao*18446744073709551616+al+x from by have:=Hs2.out;have:=Hx.out;have:=Hlo.out;have:=Hs1.out;omega);clear hb2;generalize al+x - 18446744073709551616=y at*;generalize ao+1=ao1 at*;go_wp2_with fail;go_roundw
      case rel=>exact⟨k+1,ao1,y,by omega,by go_num,Hb2.out,Hr2.out,Hy.out.1,Hy.out.2.1,by rw[Hst.out,←Hs3.out];exact Hy.out.2.2⟩
      case measure=>simp[intOf];omega
  · obtain rfl:k=n:=by omega
    have Htk:=hid (show (l.take k).sum=l.sum from by rw[List.take_of_length_le (by rw[Hl.out];exact Nat.le_refl _)]);have Hbf:=hid (show Below w.heap.size w wr from by rw[←Hg.out];exact Hb.out);by_cases hz:ao=0
    · subst hz
      have Hs:=hid (show zbt l.sum=.tuple #[.int .u64 ((al:Nat):Int),.bool true] from by
       have:=Hs3.out;have:=Hs2.out;rw[←Htk.out,←Hs3.out];unfold zbt;rw[if_pos (by omega)];simp)
      go_wp2_with fail;go_ret2;exact⟨by rw[Hs.out];rfl,Hbf.out⟩
    · have h0:(0:Nat)<ao:=by omega
      have Hs:=hid (show zbt l.sum=.tuple #[.int .u64 0,.bool false] from by
       rw[←Htk.out,←Hs3.out];unfold zbt;rw[if_neg (by omega)])
      clear hz;go_wp2_with fail;go_ret2;exact⟨by rw[Hs.out];rfl,Hbf.out⟩
end
section
open Go.RowKit
def yd (L:List Seg):List Iv:=L.map (·.1)
def yq (L:List Seg):List Nat:=L.map (·.2)
structure Own2 (w:World) (base:Nat) (L:List Seg) (v u:Value):Prop where
 ivs:w.ownsRow base 99 2 v L.length (ivC (yd L))
 idx:w.ownsRow base 3 1 u L.length (yw (yq L))
 nil:L=[]→v=.slice none 0 0∧u=.slice none 0 0
theorem Own2.below {w w':World} {base:Nat} {L:List Seg} {v u:Value} (h:Own2 w base L v u) (hb:Below w.heap.size w w'):Own2 w' base L v u:=⟨zm h.ivs hb,zm h.idx hb,h.nil⟩
theorem zn6 (L:List Seg) (l:List Iv) (i:Nat):(zal L l i).length=L.length+l.length:=by
 induction l generalizing L with
 | nil=>rfl
 | cons s l ih=>
  have e:zal L (s :: l) i=zal (zak L s i) l i:=rfl;rw[e,ih,zig,List.length_cons];omega
theorem ze0 (k:Kno):∀d,d≤k.length→(zab k d).length=yf (k.take d)
 | 0,_=>rfl
 | d+1,h=>by
   rw[zab,zn6,ze0 k d (by omega),List.take_succ_eq_append_getElem (by omega),zsg,ym (by omega)];simp[yf]
theorem zb3 {w:World} {base sz n:Nat} {T:TypeId} {v:Value} {xs:List Value} (h:w.ownsRow base T sz v n xs) (hn:0<n):∃g cap,v=.slice (some ⟨g,0,none⟩) n cap∧base≤g∧g<w.heap.size∧n≤cap∧cap≤maxLen:=by
 rcases h.2 with ⟨_,h0⟩ | ⟨g,cap,cur,hv,hg,hh,hnc,hcm,_⟩
 · omega
 · exact⟨g,cap,hv,hg,(Array.getElem?_eq_some_iff.1 hh).1,hnc,hcm⟩
def zfw (base:Nat) (v:Value) (n i:Nat) (cs ys:List Value) (w:World) (e:Ending) (w':World):Prop:=
 ∃v',e=.returned v'∧w'.ownsRow base 85 2 v' (n+1) (cs.take (i*2)++(ys++cs.drop (i*2)))∧w.grownBy w' v.ownBlock
theorem z2d {w:World} {ty:TypeId} {a b:Option Addr} {n c m d:Nat}:(Builtin.append_ #[25,24] ty #[.slice a n c,.slice b m d]).run Tryz.prog w=(Builtin.append_ #[25,25] ty #[.slice a n c,.slice b m d]).run Tryz.prog w:=by
 have h1:=Tryz.underlying25;have h2:=Tryz.underlying24;simp[Builtin.append_,run_underlying h1,run_underlying h2]
set_option maxRecDepth 100000 in
theorem z2e (base:Nat) (v:Value) (n vb:Nat) (cs ys:List Value) (w:World) (ho:w.ownsRow base 85 2 v n cs) (hv:w.heap[vb]?=some (.cells ys.toArray 85 (0,0))) (hy:ys.length=2)
 (h1:∀u∈ys,u.oneCell'=true) (hn:n+1≤1000000) (hb:base≤w.heap.size):
 Calls Tryz.prog 199 #[v,.int .i64 n,.slice (some ⟨vb,0,none⟩) 1 1] w fun e w'=>zfw base v n n cs ys w e w':=by
 have hr:Rd w 2 (some ⟨vb,0,none⟩) 1 ys:=⟨by omega,fun _=>⟨vb,0,rfl,fun j u hu=>by rw[Nat.zero_add];exact zdj hv (by simpa using hu)⟩⟩;have hrun:=fun ty=>zcp base 25 ty _ _ 2 48 Tryz.underlying25 Tryz.info_frg rfl (by omega) v n cs ho (some ⟨vb,0,none⟩) 1 1 ys hr h1 (by unfold maxLen;omega) (by omega) hb
 obtain⟨v',w',hrun1,h2,h3⟩:=hrun 25;have hlen:=ho.1;have HR:=hid (show zfw base v n n cs ys w (.returned v') w' from⟨v',rfl,by rw[List.take_of_length_le (by omega),List.drop_eq_nil_of_le (by omega),List.append_nil];exact h2,h3⟩)
 obtain⟨a,c,rfl⟩:∃a c,v=.slice a n c:=by
  rcases ho.2 with ⟨rfl,rfl⟩ | ⟨g,cap,cur,rfl,_⟩
  · exact⟨none,0,rfl⟩
  · exact⟨_,cap,rfl⟩
 have hrun2:(Builtin.append_ #[25,24] 25 #[.slice a n c,.slice (some ⟨vb,0,none⟩) 1 1]).run Tryz.prog w=.ok v' w':=by rw[z2d];exact hrun1
 have hnc:n≤c∧c≤9223372036854775807∧(a=none∨∃g,a=some ⟨g,0,none⟩):=by
  rcases ho.2 with ⟨h,rfl⟩ | ⟨g,cap,cur,h,_,_,h4,h5,_⟩
  · cases h;exact⟨Nat.le_refl _,by omega,.inl rfl⟩
  · cases h;unfold maxLen at h5;exact⟨h4,by omega,.inr ⟨g,rfl⟩⟩
 obtain⟨hnc,hc63,ha⟩:=hnc;clear hrun hrun1 h2 h3 ho hv hy h1 hr hlen;rcases ha with rfl | ⟨g,rfl⟩
 · go_enter Tryz.func199,Tryz.ntmps199;go_wp2_with (at_builtin;refine Lib.wpList_append_run _ rfl _ _ _ _ rfl _ _ rfl rfl _ _ hrun2 ?_);go_ret;exact HR.out
 · go_enter Tryz.func199,Tryz.ntmps199;go_wp2_with (at_builtin;refine Lib.wpList_append_run _ rfl _ _ _ _ rfl _ _ rfl rfl _ _ hrun2 ?_);all_goals (go_ret;exact HR.out)
theorem zs3 {w:World} {base n c g:Nat} {cs:List Value} (ho:w.ownsRow base 85 2 (.slice (some ⟨g,0,none⟩) n c) n cs):
 ∃L:List Value,w.heap[g]?=some (.cells L.toArray 85 (0,0))∧L.length=c*2∧L.take (n*2)=cs∧n≤c∧c≤maxLen∧base≤g∧g<w.heap.size:=by
 rcases ho.2 with ⟨h,_⟩ | ⟨g',cap,cur,h,h1,h2,h3,h4,h5,h6⟩
 · cases h
 · cases h;exact⟨cur.toList,by simpa using h2,by simpa using h5,h6,h3,h4,h1,(Array.getElem?_eq_some_iff.1 h2).1⟩
set_option maxRecDepth 100000 in
theorem z2f (base g n c i vb:Nat) (cs ys:List Value) (w:World) (ho:w.ownsRow base 85 2 (.slice (some ⟨g,0,none⟩) n c) n cs) (hv:w.heap[vb]?=some (.cells ys.toArray 85 (0,0))) (hne:vb≠g) (hy:ys.length=2)
 (h1c:∀u∈cs,u.oneCell'=true) (h1:∀u∈ys,u.oneCell'=true) (hi:i<n) (hc:n+1≤c):
 Calls Tryz.prog 199 #[.slice (some ⟨g,0,none⟩) n c,.int .i64 i,.slice (some ⟨vb,0,none⟩) 1 1] w fun e w'=>zfw base (.slice (some ⟨g,0,none⟩) n c) n i cs ys w e w':=by
 obtain⟨L,hg,hL,hcs,-,hcm,hbg,hgw⟩:=zs3 ho;have hc63:c≤9223372036854775807:=by unfold maxLen at hcm;omega
 have hcl:=ho.1
 have hsz:(Tryz.prog.info? 85).map (·.size)=some 2:=by
  have h:=Tryz.info_frg
  cases hq:Tryz.prog.info? 85 with
  | none=>rw[hq] at h;cases h
  | some k=>rw[hq] at h;simp at h;simp[h]
 have hov:∀off lb cb,(callFunc 238 #[.slice (some ⟨vb,0,none⟩) 1 1,.slice (some ⟨g,off,none⟩) lb cb]).run Tryz.prog w=.ok (.value (.bool false)) w:=fun off lb cb=>by
  rw[run_callFunc_extern Tryz.func238 (by kernel_rfl) (by kernel_rfl) (by kernel_rfl) (e:=Extern.SlicesOverlaps.overlaps #[24,24] #[4]) (by kernel_rfl),
   Lib.run_overlaps_apart w 24 4 85 Tryz.underlying24 2 (zqa hsz) ⟨vb,0,none⟩ ⟨g,off,none⟩ 1 1 lb cb hne 85 85 ys.length L.length (by simp[World.shape?,hv]) (by simp[World.shape?,hg]) (by omega) (by simp[World.frozen?,hv]) (by simp[World.frozen?,hv])]
  rfl
 obtain⟨A,hA⟩:∃A,A=splice L ((i+1)*2) (cs.drop (i*2)):=⟨_,rfl⟩;have hAl:A.length=c*2:=by rw[hA,length_splice _ _ _ (by rw[List.length_drop];omega),hL]
 have hcp1:∀ty,(Builtin.copy_ #[25,25] ty #[.slice (some ⟨g,(i+1)*2,none⟩) (n+1 - (i+1)) (c - (i+1)),.slice (some ⟨g,i*2,none⟩) (n+1 - i) (c - i)]).run Tryz.prog w.drew=.ok (goInt ((n - i:Nat):Int)) (w.drew.setRow g A.toArray):=fun ty=>by
  rw[hA];refine zel w.drew _ _ ty 85 2 g _ _ _ _ _ _ L 85 (cs.drop (i*2)) (n - i) Tryz.underlying25 hsz hg (by simp only[Nat.min_def];split <;> omega) (by rw[List.length_drop];omega) (fun j u hj=>?_) (by rw[List.length_drop];omega) (fun u hu=>h1c u (List.mem_of_mem_drop hu));rw[List.getElem?_drop] at hj;show w.cell? _=_;rw[yp];refine zdj hg ?_;rw[←hcs] at hj;rw[List.getElem?_take] at hj;split at hj
  · simpa using hj
  · exact absurd hj (by simp)
 obtain⟨W1,hW1⟩:∃W1,W1=w.drew.setRow g A.toArray:=⟨_,rfl⟩;have hg1:W1.heap[g]?=some (.cells A.toArray 85 (0,0)):=by rw[hW1];exact setRow_heap w.drew g _ _ _ _ hg
 have hv1:W1.heap[vb]?=some (.cells ys.toArray 85 (0,0)):=by rw[hW1];exact(setRow_other w.drew g vb _ hne).trans hv
 have hcp2:∀ty,(Builtin.copy_ #[25,24] ty #[.slice (some ⟨g,i*2,none⟩) (n+1 - i) (c - i),.slice (some ⟨vb,0,none⟩) 1 1]).run Tryz.prog W1=.ok (goInt ((1:Nat):Int)) (W1.setRow g (splice A (i*2) ys).toArray):=fun ty=>
  zel W1 _ _ ty 85 2 g _ _ _ _ _ _ A 85 ys 1 Tryz.underlying25 hsz hg1 (by simp only[Nat.min_def];split <;> omega) (by omega) (fun j u hj=>by rw[yp,Nat.zero_add];exact zdj hv1 (by simpa using hj)) (by omega) h1
 have hE:zfw base (.slice (some ⟨g,0,none⟩) n c) n i cs ys w (.returned (.slice (some ⟨g,0,none⟩) (n+1) c)) (W1.setRow g (splice A (i*2) ys).toArray):=by
  refine⟨_,rfl,⟨by simp;omega,.inr ⟨g,c,_,rfl,hbg,setRow_heap W1 g _ _ _ _ hg1,hc,hcm,by rw[List.size_toArray,length_splice _ _ _ (show i*2+ys.length≤A.length by omega),hAl],?_⟩⟩,?_⟩
  · have h:=zqb L ys (i*2) (n*2) 2 (by omega) hy (by omega);rw[hcs] at h;rw[hA,show (i+1)*2=i*2+2 by omega,show (n+1)*2=n*2+2 by omega];simpa using h
  · refine⟨by rw[hW1];rfl,by rw[hW1];rfl,by rw[hW1];rfl,by rw[hW1];simp[World.setRow],fun k hk hkr=>?_⟩;have hkg:k≠g:=fun e=>hkr (by rw[e];rfl)
    rw[setRow_other W1 g k _ hkg,hW1];exact setRow_other w.drew g k _ hkg
 have HE:=hid hE;rw[←hW1] at hcp1;have HW1:=hid hW1;clear hE hW1 hg1 hv1 hA hAl ho hg hL hcs hcl hv hy h1c h1;have hz2:¬((i:Int)=(n:Int)):=by omega
 have hw1:IntKind.i64.wrap ((i:Int)+1)=(i:Int)+1:=by rw[IntKind.wrap_i64];omega
 have hin:i≤n:=by omega
 have hb2:¬(c=i+1):=by omega
 have hb4:¬(c=i):=by omega
 have hb1:(0:Int)≤(i:Int)+1:=by omega
 have hb3:(i:Int)≤(n:Int)+1:=by omega
 have htn:((i:Int)+1).toNat=i+1:=by omega
 go_enter Tryz.func199,Tryz.ntmps199;go_wp2_with (simp only[hov]);go_region_law (refine zjs rfl _ _ 25 25 rfl (.slice (some ⟨g,(i+1)*2,none⟩) (n+1 - (i+1)) (c - (i+1))) (.slice (some ⟨g,i*2,none⟩) (n+1 - i) (c - i)) (by simp[Act.eval,Act.put] <;> omega) (by simp[Act.eval,Act.put] <;> omega) (hcp1 _) ?_)
 go_wp2_with (at_builtin;refine zjr rfl _ _ 25 24 rfl (.slice (some ⟨g,i*2,none⟩) (n+1 - i) (c - i)) (.slice (some ⟨vb,0,none⟩) 1 1) (by simp[Act.eval,Act.put] <;> omega) (by simp[Act.eval,Act.put]) (hcp2 _) ?_);go_ret;exact HE.out
set_option maxRecDepth 100000 in
theorem z2g (base g n c i vb:Nat) (cs ys:List Value) (w:World) (ho:w.ownsRow base 85 2 (.slice (some ⟨g,0,none⟩) n c) n cs) (hv:w.heap[vb]?=some (.cells ys.toArray 85 (0,0))) (hy:ys.length=2)
 (h1c:∀u∈cs,u.oneCell'=true) (h1:∀u∈ys,u.oneCell'=true) (hi:i<n) (hc:c<n+1) (hn:n+1≤1000000) (hb:base≤w.heap.size):
 Calls Tryz.prog 199 #[.slice (some ⟨g,0,none⟩) n c,.int .i64 i,.slice (some ⟨vb,0,none⟩) 1 1] w fun e w'=>zfw base (.slice (some ⟨g,0,none⟩) n c) n i cs ys w e w':=by
 obtain⟨L,hg,hL,hcs,hnc,hcm,hbg,hgw⟩:=zs3 ho;have hc63:c≤9223372036854775807:=by unfold maxLen at hcm;omega
 have hcl:=ho.1;have hvw:vb<w.heap.size:=(Array.getElem?_eq_some_iff.1 hv).1;obtain⟨i0,hi0,hz0,hzs,hzb⟩:=info_parts Tryz.info_frg;have hsz:(Tryz.prog.info? 85).map (·.size)=some 2:=by rw[hi0];simp[hzs]
 have hcell:∀j v,cs[j]?=some v→w.cell? ⟨g,j,none⟩=some v:=fun j v hj=>by
  refine zdj hg ?_;rw[←hcs,List.getElem?_take] at hj;split at hj
  · simpa using hj
  · exact absurd hj (by simp)
 have hold:(Builtin.firstCells i0.size i (.slice (some ⟨g,0,none⟩) i c)).run Tryz.prog w.drew=.ok (cs.take (i*2)).toArray w.drew:=by
  rw[hzs]
  exact run_firstCells_some w.drew 2 i ⟨g,0,none⟩ i c (cs.take (i*2)) (by rw[List.length_take];omega) (fun j v hj=>by
   rw[yp,Nat.zero_add];rw[List.getElem?_take] at hj;split at hj
   · exact hcell j v hj
   · cases hj)
 have hik:i+(n+1 - i)=n+1:=by omega
 obtain⟨G,hG⟩:∃G,G=grownCap w (n+1) c 85:=⟨_,rfl⟩;obtain⟨Z,hZ⟩:∃Z:List Value,Z=cs.take (i*2)++((Builtin.zeroCells (Value.cells (.agg #[.slice none 0 0,.slice none 0 0])) (n+1 - i)).toList++(Builtin.zeroCells (Value.cells (.agg #[.slice none 0 0,.slice none 0 0])) (G - (n+1))).toList):=⟨_,rfl⟩
 have hrz:∀ty,(Builtin.append_ #[25,3] ty #[.slice (some ⟨g,0,none⟩) i c,.int .i64 ((n:Int)+1 - (i:Int))]).run Tryz.prog w=
  .ok (.slice (some ⟨w.heap.size,0,none⟩) (n+1) G) (w.drew.alloc (.cells Z.toArray 85)):=fun ty=>by
  have h:=Lib.run_append_grow_zeros w 25 3 ty 85 i0 _ .i64 .i64 Tryz.underlying25 Tryz.underlying3 hi0 hz0 (some ⟨g,0,none⟩) i c (cs.take (i*2)) hold (n+1 - i) (by omega) (by omega) (by omega) (by omega) (by rw[hzb];omega) (by rw[hzb,hik];exact growslice_fits hc (by omega));rw[hik,←hG] at h
  have hZa:(cs.take (i*2)).toArray++Builtin.zeroCells (Value.cells (.agg #[.slice none 0 0,.slice none 0 0])) (n+1 - i)++Builtin.zeroCells (Value.cells (.agg #[.slice none 0 0,.slice none 0 0])) (G - (n+1))=Z.toArray:=by
   rw[hZ];apply Array.ext';simp
  rw[hZa] at h;rw[show (n:Int)+1 - (i:Int)=((n+1 - i:Nat):Int) by omega,h]
 have hGn:n+1≤G:=by rw[hG];exact grownCap_ge w _ _ _
 have hGm:G≤maxLen:=by rw[hG];exact grownCap_le_maxLen w (n+1) c 85 (by unfold maxLen;omega)
 have hG63:G≤9223372036854775807:=by unfold maxLen at hGm;omega
 have hZl:Z.length=G*2:=by
  have hz:∀k,(Builtin.zeroCells (Value.cells (.agg #[.slice none 0 0,.slice none 0 0])) k).toList.length=k*2:=fun k=>by rw[Array.length_toList,size_zeroCells];rfl
  rw[hZ,List.length_append,List.length_append,List.length_take,hz,hz];omega
 have hZt:Z.take (i*2)=cs.take (i*2):=by
  rw[hZ,List.take_append_of_le_length (by rw[List.length_take];omega)];exact List.take_of_length_le (by rw[List.length_take];omega)
 obtain⟨W1,hW1⟩:∃W1,W1=w.drew.alloc (.cells Z.toArray 85):=⟨_,rfl⟩;rw[←hW1] at hrz;have n1:W1.heap[w.heap.size]?=some (.cells Z.toArray 85 (0,0)):=by rw[hW1];exact heap_alloc_new w.drew _
 have o1:∀k,k<w.heap.size→W1.heap[k]?=w.heap[k]?:=fun k hk=>by rw[hW1];exact Below.heap_alloc w.drew _ k hk
 have hcpA:∀ty,(Builtin.copy_ #[25,24] ty #[.slice (some ⟨w.heap.size,i*2,none⟩) (n+1 - i) (G - i),.slice (some ⟨vb,0,none⟩) 1 1]).run Tryz.prog W1=.ok (goInt ((1:Nat):Int)) (W1.setRow w.heap.size (splice Z (i*2) ys).toArray):=fun ty=>
  zel W1 _ _ ty 85 2 w.heap.size _ _ _ _ _ _ Z 85 ys 1 Tryz.underlying25 hsz n1 (by simp only[Nat.min_def];split <;> omega) (by omega) (fun j u hj=>by rw[yp,Nat.zero_add];exact zdj ((o1 vb hvw).trans hv) (by simpa using hj)) (by omega) h1
 obtain⟨W2,hW2⟩:∃W2,W2=W1.setRow w.heap.size (splice Z (i*2) ys).toArray:=⟨_,rfl⟩;rw[←hW2] at hcpA;have n2:W2.heap[w.heap.size]?=some (.cells (splice Z (i*2) ys).toArray 85 (0,0)):=by rw[hW2];exact setRow_heap W1 _ _ _ _ _ n1
 have o2:∀k,k<w.heap.size→W2.heap[k]?=w.heap[k]?:=fun k hk=>by rw[hW2];exact(setRow_other W1 _ k _ (by omega)).trans (o1 k hk)
 have hl2:(splice Z (i*2) ys).length=G*2:=by rw[length_splice _ _ _ (by omega),hZl]
 have hcpB:∀ty,(Builtin.copy_ #[25,25] ty #[.slice (some ⟨w.heap.size,(i+1)*2,none⟩) (n+1 - (i+1)) (G - (i+1)),.slice (some ⟨g,i*2,none⟩) (n - i) (c - i)]).run Tryz.prog W2.drew=.ok (goInt ((n - i:Nat):Int)) (W2.drew.setRow w.heap.size (splice (splice Z (i*2) ys) ((i+1)*2) (cs.drop (i*2))).toArray):=fun ty=>by
  refine zel W2.drew _ _ ty 85 2 w.heap.size _ _ _ _ _ _ _ 85 (cs.drop (i*2)) (n - i) Tryz.underlying25 hsz n2 (by simp only[Nat.min_def];split <;> omega) (by rw[List.length_drop];omega) (fun j u hj=>?_) (by rw[List.length_drop];omega) (fun u hu=>h1c u (List.mem_of_mem_drop hu));rw[List.getElem?_drop] at hj;show W2.cell? _=_;rw[yp];have h:=hcell _ u hj;simp only[World.cell?,o2 g hgw] at h ⊢;exact h
 obtain⟨C,hC⟩:∃C,C=splice (splice Z (i*2) ys) ((i+1)*2) (cs.drop (i*2)):=⟨_,rfl⟩;have hl3:C.length=G*2:=by rw[hC,length_splice _ _ _ (by rw[List.length_drop];omega),hl2]
 have hCt:C.take ((n+1)*2)=cs.take (i*2)++(ys++cs.drop (i*2)):=by
  have h:=zqc Z ys cs (i*2) (n*2) 2 (by omega) hcl hy (by omega) hZt;rw[hC,show (i+1)*2=i*2+2 by omega,show (n+1)*2=n*2+2 by omega];exact h
 rw[←hC] at hcpB
 have hE:zfw base (.slice (some ⟨g,0,none⟩) n c) n i cs ys w (.returned (.slice (some ⟨w.heap.size,0,none⟩) (n+1) G)) (W2.drew.setRow w.heap.size C.toArray):=by
  refine⟨_,rfl,⟨by simp;omega,.inr ⟨w.heap.size,G,_,rfl,hb,setRow_heap W2.drew _ _ _ _ _ n2,hGn,hGm,by rw[List.size_toArray,hl3],?_⟩⟩,?_⟩
  · simpa using hCt
  · refine⟨by rw[hW2,hW1];rfl,by rw[hW2,hW1];rfl,by rw[hW2,hW1];rfl,by rw[hW2,hW1];simp[World.setRow],fun k hk hkr=>?_⟩;rw[setRow_other W2.drew _ k _ (by omega)];exact o2 k hk
 have HE:=hid hE;obtain⟨W3,hW3⟩:∃W3,W3=W2.drew.setRow w.heap.size C.toArray:=⟨_,rfl⟩;rw[←hW3] at hcpB HE;obtain⟨N,hN⟩:∃N,N=w.heap.size:=⟨_,rfl⟩;have hgN:g≠N:=by omega
 have hvN:vb≠N:=by omega
 rw[←hN] at hcpA hcpB HE hrz;clear hE hW3 hN hC hl3 hCt hW2 n2 o2 hl2 hW1 n1 o1 hZ hZl hZt hG hold hcell hcl hcs hL hg ho hv hy h1c h1 hi0 hz0 hzs hzb hsz hb hcm hGm;have hz2:¬((i:Int)=(n:Int)):=by omega
 have hz3:(c:Int)<(n:Int)+1:=by omega
 have hGi:¬(G=i):=by omega
 have hGim:¬(G=i+1):=by omega
 have hci:¬(c=i):=by omega
 have hw1:IntKind.i64.wrap ((i:Int)+1)=(i:Int)+1:=by rw[IntKind.wrap_i64];omega
 have hb1:(0:Int)≤(i:Int)+1:=by omega
 have hin:i≤n:=by omega
 have htn:((i:Int)+1).toNat=i+1:=by omega
 have hb3:(i:Int)≤(n:Int):=by omega
 clear hik;go_enter Tryz.func199,Tryz.ntmps199
 go_wp2_with (first
  | (at_builtin;refine Lib.wpList_append_run _ rfl _ _ _ _ rfl _ _ rfl rfl _ _ (hrz _) ?_)
  | (at_builtin;refine zjr rfl _ _ 25 24 rfl (.slice (some ⟨N,i*2,none⟩) (n+1 - i) (G - i)) (.slice (some ⟨vb,0,none⟩) 1 1) (by simp[Act.eval,Act.put] <;> omega) (by simp[Act.eval,Act.put]) (hcpA _) ?_))
 go_region_law (refine zjs rfl _ _ 25 25 rfl (.slice (some ⟨N,(i+1)*2,none⟩) (n+1 - (i+1)) (G - (i+1))) (.slice (some ⟨g,i*2,none⟩) (n - i) (c - i)) (by simp[Act.eval,Act.put] <;> omega) (by simp[Act.eval,Act.put] <;> omega) (hcpB _) ?_)
 go_wp2;go_ret;exact HE.out
theorem z2h (base:Nat) (v:Value) (n i vb:Nat) (cs ys:List Value) (w:World) (ho:w.ownsRow base 85 2 v n cs) (hv:w.heap[vb]?=some (.cells ys.toArray 85 (0,0))) (hne:v.ownBlock≠some vb) (hy:ys.length=2)
 (h1c:∀u∈cs,u.oneCell'=true) (h1:∀u∈ys,u.oneCell'=true) (hi:i≤n) (hn:n+1≤1000000) (hb:base≤w.heap.size):
 Calls Tryz.prog 199 #[v,.int .i64 i,.slice (some ⟨vb,0,none⟩) 1 1] w fun e w'=>zfw base v n i cs ys w e w':=by
 by_cases hin:i=n
 · subst hin;exact z2e base v _ vb cs ys w ho hv hy h1 hn hb
 · rcases ho.2 with ⟨rfl,rfl⟩ | ⟨g,cap,cur,rfl,_,_,h4,_⟩
   · omega
   · by_cases hc:n+1≤cap
     · exact z2f base g n cap i vb cs ys w ho hv (fun e=>hne (by rw[e];rfl)) hy h1c h1 (by omega) hc
     · exact z2g base g n cap i vb cs ys w ho hv hy h1c h1 (by omega) (by omega) hn hb
set_option maxRecDepth 20000 in
theorem z2i (a:Option Addr) (n cap:Nat) (v:Vec) (w:World) (hE:Ents w a n cap v) (hC:CanV v) (hF:VecFits v):
 Calls Tryz.prog 158 #[.slice a n cap] w fun x w'=>(∃y,x=.returned y∧OwnV w' w.heap.size y v)∧Below w.heap.size w w':=by
 have HE:=hid hE;have HF:=hid hF;have HC:=hid hC;have Hl:=hid hE.len;have hm:n≤9223372036854775807:=Nat.le_trans hE.room hE.most;have hn3:n≤300:=by rw[←hE.len];exact hF.len
 clear hE hF hC;go_enter Tryz.func158,Tryz.ntmps158;go_wp2;go_loopw [3,5,6,7,10] (fun y _ _ _ i wr=>∃k:Nat,k≤n∧i=.int .i64 k∧Below w.heap.size w wr∧Hid (OwnV wr w.heap.size y (v.take k))) (fun _ _ _ _ i _=>n - (intOf i).toNat)
 case atStart=>exact⟨0,by omega,rfl,Below.refl _ _,by rw[List.take_zero];exact zhy _ _⟩
 case round=>
  obtain⟨k,hk,rfl,hb,ho⟩:=hrel;have Hb:=hid hb;clear hb;by_cases hkn:k<n
  · have hkv:k<v.length:=by rw[Hl.out];exact hkn
    have HEr:=hid (HE.out.below Hb.out);obtain⟨bb,oo,rfl⟩:=HEr.out.some (by omega);have Hlt:=hid (HE.out.lt (zc v k) (jb hkv));have Hho:=hid (HF.out.holes (zc v k) (jb hkv));have hce:=HC.out.ent (zc v k) (jb hkv);have Hst:=hid (show v.take (k+1)=v.take k++[zc v k] from by rw[List.take_succ_eq_append_getElem hkv,qn hkv]);have HoL:=hid (show (v.take k).length≤300 from by rw[List.length_take];omega);obtain⟨x,m,c,hq⟩:=HEr.out.fix hkn;obtain⟨q1,q2,q3,q4⟩:=hq _ (Below.refl _ _);have hal:Below wr.heap.size wr (wr.alloc (.cells #[.int .u64 (zc v k).1,.int .u64 (zc v k).2.1,.slice x m c] 101)):=(Below.refl _ _).alloc (Nat.le_refl _) _;have hD:=hid (z16 (zc v k) x m c _ (q4.below hal) hce (by rw[←q4.len];have:=Hho.out;omega));have HX:=hid (zcc wr (.int .u64 (zc v k).1) (.int .u64 (zc v k).2.1) (.slice x m c) 101 _ (Below.refl _ _));have Hal:=hid hal;clear hal hce q4 hq;generalize v.take k=T at*;have h0:(0:Int)≤k:=by omega
    have h04:(k:Int)<(n:Int):=by omega
    have hx:=HX.out;generalize zc v k=e at*;obtain⟨er,em,eh⟩:=e;simp only at q1 q2 q3 hx Hal;obtain⟨x0,x1,x2⟩:=hx;clear HX;go_wp2_with fail;refine hD.out.mono ?_;rintro z w1 ⟨hz,hb1⟩;obtain⟨sa,sc,rfl,hs⟩:=zsa hz Hlt.out.holes;simp only at hs;have Hs:=hid (hs 0);have Hb1:=hid (Hb.out.trans ((Hal.out.trans (hb1.mono Hal.out.size)).mono Hb.out.size));have Ho1:=hid (ho.out.below (Hal.out.trans (hb1.mono Hal.out.size)))
    have hal2:Below w1.heap.size w1 ((w1.alloc (.cells #[.int .u64 er,.int .u64 em,.slice sa eh.length sc] 101)).alloc (.cells #[.int .u64 er,.int .u64 em,.slice sa eh.length sc] 101)):=
     ((Below.refl w1.heap.size w1).alloc (Nat.le_refl _) _).alloc (by simp) _
    have Hal2:=hid hal2;clear hb1 hs hz hal2 x0 x1 x2;go_wp2_with (at_builtin;refine znt rfl (.tmp 20) (.tmp 22) rfl rfl w.heap.size _ T rfl (Ho1.out.below Hal2.out) _ 1 (er,em,eh) sa eh.length sc (Hs.out.steady (P:=fun _=>True) (.of_below Hal2.out) trivial) rfl (yg (zg _ _ _ (by simp)) rfl rfl) (by have:=HoL.out;omega) (by have:=Hb1.out.size;simp;omega) ?_;intro v' w7 ho7 hg7 _);have Hb7:=hid (Below.grown (Hb1.out.trans (Hal2.out.mono Hb1.out.size)) hg7 (by have:=Hb1.out.size;have:=Hal2.out.size;omega) (fun k hk=>(Ho1.out.lt k hk).1));go_roundw
    case rel=>exact⟨k+1,by omega,by go_num,Hb7.out,by first | (rw[Hst.out];exact ho7) | (trace_state;fail)⟩
    case measure=>simp[intOf];omega
  · obtain rfl:k=n:=by omega
    have Ho:=hid ho.out;rw[show v.take k=v from List.take_of_length_le (by rw[Hl.out];exact Nat.le_refl _)] at Ho;go_wp2;go_ret;exact⟨⟨_,rfl,Ho.out⟩,Hb.out⟩
end
section
def zda (l:List Int) (k:Nat):Int:=l.getD k 0
theorem zk2 {l:List Int} {k:Nat} (h:k<l.length):zda l k=l[k]:=by simp[zda,h]
def vg (l:List Vec) (k:Nat):Vec:=l.getD k []
theorem zea {l:List Vec} {k:Nat} (h:k<l.length):vg l k=l[k]:=by simp[vg,h]
theorem zn7 {l:List Vec} {k:Nat} (h:k<l.length):vg l k∈l:=by rw[zea h];exact List.getElem_mem h
def itB (l:List Iv) (ix:List Int) (i:Nat):Nat→List Iv
 | 0=>[]
 | d+1=>itB l ix i d++if zda ix d=(i:Int) then [zb l d] else []
def zgs (vs:List Vec) (l:List Iv) (ix:List Int) (d:Nat):Kno:=(List.range vs.length).map fun i=>(itB l ix i d,vg vs i)
def zk3 (vs:List Vec) (l:List Iv) (ix:List Int):Kno:=zgs vs l ix l.length
theorem z2j {k:Kno} (hc:CanK k) {i j:Nat} (hi:i<k.length) (hj:j<k.length) (e:za k i=za k j):i=j:=by
 have one:∀{i j:Nat},i<j→j<k.length→za k i=za k j→False:=fun {i j} hij hj e=>by
  have hl:=List.pairwise_iff_getElem.1 hc.asc i j (by omega) hj hij;rw[←ym (by omega),←ym hj,e] at hl;unfold jy at hl;rw[zgi] at hl;cases hl
 rcases Nat.lt_trichotomy i j with h | h | h
 · exact(one h hj e).elim
 · exact h
 · exact(one h hi e.symm).elim
def zn8 (p q:Seg):Prop:=(p.1.2<q.1.1∧(p.2=q.2→p.1.2+1<q.1.1))∨(q.1.2<p.1.1∧(p.2=q.2→q.1.2+1<p.1.1))
theorem z2k {p q:Seg} (h:zn8 p q):zn8 q p:=by
 rcases h with ⟨h1,h2⟩ | ⟨h1,h2⟩
 · exact .inr ⟨h1,fun e=>h2 e.symm⟩
 · exact .inl ⟨h1,fun e=>h2 e.symm⟩
theorem zs4 {l:List Iv} (h:Good l):l.Pairwise fun s t=>s.2+1<t.1:=by
 rw[List.pairwise_iff_getElem];intro i j hi hj hij;have:=zgq h hij hj;rwa [qf hi,qf hj] at this
theorem z2l {k:Kno} (hc:CanK k) {i j:Nat} (hi:i<k.length) (hj:j<k.length) (hij:i≠j) {s t:Iv} (hs:s∈(za k i).1) (ht:t∈(za k j).1):s.2<t.1∨t.2<s.1:=by
 have h1:=(hc.items _ (yb hi)).1.ok s hs;have h2:=(hc.items _ (yb hj)).1.ok t ht;rcases Nat.lt_or_ge s.2 t.1 with h | h
 · exact .inl h
 rcases Nat.lt_or_ge t.2 s.1 with h' | h'
 · exact .inr h'
 exfalso;refine hij (z2j hc hi hj (hc.apart _ (yb hi) _ (yb hj) (max s.1 t.1) (mem_iff.2 ⟨s,hs,?_,?_⟩) (mem_iff.2 ⟨t,ht,?_,?_⟩))) <;> omega
theorem zs5 {k:Kno} (hc:CanK k):∀d,d≤k.length→(zab k d).Pairwise zn8
 | 0,_=>List.Pairwise.nil
 | d+1,h=>by
   obtain⟨h1,h2,h3⟩:=zcx k d (by omega);obtain⟨-,g2⟩:=zk1 h1 d (za k d).1;have e:zab k (d+1)=zal (zab k d) (za k d).1 d:=rfl;rw[e];refine(List.Perm.pairwise_iff (fun {x y} h=>z2k h) g2).2 (List.pairwise_append.2 ⟨zs5 hc d (by omega),?_,fun p hp q hq=>?_⟩)
   · refine List.pairwise_map.2 ((zs4 (hc.items _ (yb h)).1).imp fun {s t} hst=>.inl ⟨?_,fun _=>hst⟩);simp only;omega
   · obtain⟨t,ht,rfl⟩:=List.mem_map.1 hq;obtain⟨p1,p2⟩:=h3 p hp;have hne:p.2≠d:=by omega
     rcases z2l hc (by omega:p.2<k.length) h hne p2 ht with hh | hh
     · exact .inl ⟨hh,fun e=>absurd e hne⟩
     · exact .inr ⟨hh,fun e=>absurd e hne⟩
theorem zs6 {k:Kno} (hc:CanK k):(zj k).Pairwise fun p q=>p.1.2<q.1.1∧(p.2=q.2→p.1.2+1<q.1.1):=by
 obtain⟨h1,h2,h3⟩:=zcx k k.length (Nat.le_refl _);have h4:=zs5 hc k.length (Nat.le_refl _);have ok:∀p∈zj k,p.1.1≤p.1.2:=fun p hp=>(hc.items _ (yb (h3 p hp).1)).1.ok _ (h3 p hp).2
 rw[List.pairwise_iff_getElem] at h1 h4 ⊢;intro i j hi hj hij;have e1:=h1 i j hi hj hij;have o1:=ok _ (List.getElem_mem hi);have o2:=ok _ (List.getElem_mem hj);unfold zj at o1 o2 ⊢;rcases h4 i j hi hj hij with h | h
 · exact h
 · exact absurd h.1 (by omega)
def vu (k:Kno):List Iv:=(zj k).map (·.1)
def zgt (k:Kno):List Int:=(zj k).map fun p=>(p.2:Int)
theorem ze1 (k:Kno):(vu k).length=(zj k).length:=by simp[vu]
theorem z2m (k:Kno):(zgt k).length=(zj k).length:=by simp[zgt]
theorem zk4 {k:Kno} {i:Nat} (h:i<(zj k).length):zb (vu k) i=(zj k)[i].1:=by rw[qf (by rw[ze1];exact h)];simp[vu]
theorem z2n {k:Kno} {i:Nat} (h:i<(zj k).length):zda (zgt k) i=((zj k)[i].2:Int):=by rw[zk2 (by rw[z2m];exact h)];simp[zgt]
theorem zs7 (k:Kno) (i:Nat):∀d,d≤(zj k).length→itB (vu k) (zgt k) i d=(((zj k).take d).filter fun p=>decide (p.2=i)).map (·.1)
 | 0,_=>by simp[itB]
 | d+1,h=>by
   rw[itB,zs7 k i d (by omega),zk4 h,z2n h,List.take_succ_eq_append_getElem h,List.filter_append,List.map_append];congr 1;by_cases e:(zj k)[d].2=i
   · rw[if_pos (by omega),List.filter_cons_of_pos (by simpa using e)];rfl
   · rw[if_neg (by omega),List.filter_cons_of_neg (by simpa using e)];rfl
theorem zs8 (k:Kno) (i:Nat):∀d,d≤k.length→(((zab k d).filter fun p=>decide (p.2=i)).map (·.1)).Perm (if i<d then (za k i).1 else [])
 | 0,_=>by simp[zab]
 | d+1,h=>by
   obtain⟨h1,h2,h3⟩:=zcx k d (by omega);obtain⟨-,g2⟩:=zk1 h1 d (za k d).1;have e:zab k (d+1)=zal (zab k d) (za k d).1 d:=rfl;rw[e];refine((g2.filter _).map _).trans ?_;rw[List.filter_append,List.map_append];have ih:=zs8 k i d (by omega);refine(ih.append_right _).trans ?_;by_cases hd:d=i
   · subst hd;rw[if_neg (by omega),if_pos (by omega),List.filter_eq_self.2 (fun a ha=>by obtain⟨s,_,rfl⟩:=List.mem_map.1 ha;simp),List.map_map];simp[Function.comp_def]
   · rw[List.filter_eq_nil_iff.2 (fun a ha=>by obtain⟨s,_,rfl⟩:=List.mem_map.1 ha;simpa using hd)];by_cases hi:i<d
     · rw[if_pos hi,if_pos (by omega)];simp
     · rw[if_neg hi,if_neg (by omega)];simp
theorem z2o {k:Kno} (hc:CanK k):zk3 (k.map (·.2)) (vu k) (zgt k)=k:=by
 obtain⟨h1,h2,h3⟩:=zcx k k.length (Nat.le_refl _);unfold zk3 zgs;refine List.ext_getElem (by simp) fun i hi hi'=>?_
 rw[List.getElem_map,List.getElem_range,ze1,zs7 k i _ (Nat.le_refl _),List.take_length];have hp:=zs8 k i k.length (Nat.le_refl _);rw[if_pos hi'] at hp;have hgood:=(hc.items _ (yb hi')).1
 have e:((zj k).filter fun p=>decide (p.2=i)).map (·.1)=(za k i).1:=by
  refine zn4 (f:=(·.1)) hp (List.pairwise_map.2 (h1.filter _)) ?_ fun s hs t ht e=>?_
  · refine(zs4 hgood).imp_of_mem fun {s t} hs ht hst=>?_
    have:=hgood.ok s hs;omega
  · exact zs2 hgood (hp.mem_iff.1 hs) (hp.mem_iff.1 ht) e
 rw[e,zea (by simpa using hi'),List.getElem_map,ym hi']
theorem zs9 (vs:List Vec) (l:List Iv) (ix:List Int) (d:Nat):(zgs vs l ix d).length=vs.length:=by simp[zgs]
theorem z2p {vs:List Vec} {l:List Iv} {ix:List Int} {d i:Nat} (h:i<vs.length):za (zgs vs l ix d) i=(itB l ix i d,vg vs i):=by
 rw[ym (by rw[zs9];exact h)];simp[zgs]
theorem zta (l:List Iv) (ix:List Int) (i:Nat):∀d,(itB l ix i d).length≤d
 | 0=>by simp[itB]
 | d+1=>by
   have:=zta l ix i d;rw[itB,List.length_append];split <;> simp <;> omega
theorem ztb {l:List Iv} {ix:List Int} {i:Nat} {s:Iv}:∀{d},d≤l.length→s∈itB l ix i d→s∈l
 | 0,_,h=>by cases h
 | d+1,hd,h=>by
   rw[itB] at h;rcases List.mem_append.1 h with h | h
   · exact ztb (by omega) h
   · split at h
     · rw[List.mem_singleton] at h;rw[h];exact zaa hd
     · cases h
def zo (l:List Nat):List Nat:=l.flatMap jx
theorem ztc (a b:List Nat):zo (a++b)=zo a++zo b:=by simp[zo]
theorem ztd (x:Nat):zo [x]=jx x:=by simp[zo]
theorem zih:∀(l:List Nat),(zo l).length≤10*l.length
 | []=>by simp[zo]
 | x :: l=>by
   have e:zo (x :: l)=jx x++zo l:=rfl;have h1:=zih l;have h2:(jx x).length≤10:=zhl 9 x;rw[e,List.length_append,List.length_cons];omega
def jd (l:List Iv) (a i:Nat):Nat:=if i=0 then (zb l 0).1 else (zb l i).1 - (zb l (i - 1)).2 - 1 - a
def vk (l:List Iv) (a:Nat):Nat→List Nat
 | 0=>[]
 | d+1=>vk l a d++[jd l a d,(zb l d).2 - (zb l d).1]
def kf (l:List Iv) (a:Nat):List Nat:=vk l a l.length
def zb4 (l:List Iv) (a:Nat):Prop:=∀i,i<l.length→(zb l i).1≤(zb l i).2∧(0<i→(zb l (i - 1)).2+1+a≤(zb l i).1)
theorem ze2 (l:List Iv) (a:Nat):∀d,(vk l a d).length=2*d
 | 0=>rfl
 | d+1=>by rw[vk,List.length_append,ze2 l a d];simp;omega
theorem zk5 {l:List Iv} {a:Nat} (h:zq l):∀d,d≤l.length→∀x∈vk l a d,x<18446744073709551616
 | 0,_,x,hx=>by cases hx
 | d+1,hd,x,hx=>by
   rw[vk] at hx;rcases List.mem_append.1 hx with hx | hx
   · exact zk5 h d (by omega) x hx
   · have h1:=h _ (zaa (show d<l.length from hd));simp at hx;rcases hx with rfl | rfl
     · unfold jd;split
       · rename_i e;rw[e] at h1;exact h1.1
       · omega
     · omega
theorem zte (l:List Iv) (a:Nat):∀d i,i<d→nth (vk l a d) (2*i)=jd l a i∧nth (vk l a d) (2*i+1)=(zb l i).2 - (zb l i).1
 | 0,i,h=>by omega
 | d+1,i,h=>by
   have hl:=ze2 l a d;rw[vk];by_cases e:i=d
   · subst e;unfold nth;rw[List.getD_eq_getElem?_getD,List.getD_eq_getElem?_getD,List.getElem?_append_right (by omega),List.getElem?_append_right (by omega),hl,show 2*i - 2*i=0 by omega,show 2*i+1 - 2*i=1 by omega];exact⟨rfl,rfl⟩
   · obtain⟨h1,h2⟩:=zte l a d i (by omega);unfold nth at h1 h2 ⊢;rw[List.getD_eq_getElem?_getD] at h1 h2 ⊢;rw[List.getD_eq_getElem?_getD,List.getElem?_append_left (by omega),List.getElem?_append_left (by omega)];exact⟨h1,h2⟩
theorem zn9 {l:List Iv} (h:Good l):zb4 l 1:=fun i hi=>by
 have:=zcr h i hi;exact⟨this.1,fun h0=>by have:=this.2 h0;omega⟩
def zb5 (v:Vec) (i:Nat):Nat:=if i=0 then (zc v 0).1 else (zc v i).1 - (zc v (i - 1)).1 - 1
def vv (v:Vec) (i:Nat):List Nat:=[zb5 v i,(zc v i).2.1,(zc v i).2.2.length]++kf (zc v i).2.2 1
def ql (v:Vec):Nat→List Nat
 | 0=>[v.length]
 | d+1=>ql v d++vv v d
def vw (v:Vec):List Nat:=ql v v.length
def y8 (c:Kno):Nat→List Nat
 | 0=>[c.length]
 | d+1=>y8 c d++vw (za c d).2
def ja (l:List Iv) (x:List Nat):Nat→List Nat
 | 0=>[l.length]
 | d+1=>ja l x d++[jd l 0 d,(zb l d).2 - (zb l d).1,nth x d]
def zk (c:Kno):List Nat:=y8 c c.length++ja ((zj c).map (·.1)) ((zj c).map (·.2)) (zj c).length
end
end Go.Proofs.YtdnjfnofjaoajaaGreatDoor
