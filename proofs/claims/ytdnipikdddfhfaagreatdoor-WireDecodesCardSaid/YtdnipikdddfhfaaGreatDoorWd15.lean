/- Part 15. -/
import Derived.ChangeSame
import Derived.ChangeVars
import Derived.JoinedOf
import Derived.RowKit
import Derived.LaidLaws
import Derived.LaidHandle
import Derived.LaidSub
import Derived.LaidMore
import Derived.Lay
import Derived.HandedShaped
import Derived.Deep.DeepLaidRun
import Derived.Lib.LaidTab
import Derived.Stop.LaidErr
import Derived.Stop.Joined
import Derived.Deep.SlicePairs
import Derived.ProofKit
import Derived.OpenShut
import Derived.Test.YtdnipikdddfhfaaGreatDoorWd13
import Derived.Test.YtdnipikdddfhfaaGreatDoorWd14
set_option linter.unusedVariables false
set_option maxHeartbeats 16000000
namespace Go.Proofs.YtdnipikdddfhfaaGreatDoor
open Lib (hid)
section
open Go.RowKit
def zd7 (base:Nat) (v:Value) (n i:Nat) (cs ys:List Value) (w:World) (e:Ending) (w':World):Prop:=
 ∃v',e=.returned v'∧w'.ownsRow base 97 2 v' (n+1) (cs.take (i*2)++(ys++cs.drop (i*2)))∧w.grownBy w' v.ownBlock
theorem zyj {w:World} {ty:TypeId} {a b:Option Addr} {n c m d:Nat}:(Builtin.append_ #[27,26] ty #[.slice a n c,.slice b m d]).run Tryz.prog w=(Builtin.append_ #[27,27] ty #[.slice a n c,.slice b m d]).run Tryz.prog w:=by
 have h1:=Tryz.underlying27;have h2:=Tryz.underlying26;simp[Builtin.append_,run_underlying h1,run_underlying h2]
set_option maxRecDepth 100000 in
theorem zyk (base:Nat) (v:Value) (n vb:Nat) (cs ys:List Value) (w:World) (ho:w.ownsRow base 97 2 v n cs) (hv:w.heap[vb]?=some (.cells ys.toArray 97 (0,0))) (hy:ys.length=2)
 (h1:∀u∈ys,u.oneCell'=true) (hn:n+1≤1000000) (hb:base≤w.heap.size):
 Calls Tryz.prog 207 #[v,.int .i64 n,.slice (some ⟨vb,0,none⟩) 1 1] w fun e w'=>zd7 base v n n cs ys w e w':=by
 have hr:Rd w 2 (some ⟨vb,0,none⟩) 1 ys:=⟨by omega,fun _=>⟨vb,0,rfl,fun j u hu=>by rw[Nat.zero_add];exact zcb hv (by simpa using hu)⟩⟩;have hrun:=fun ty=>zbi base 27 ty _ _ 2 48 Tryz.underlying27 Tryz.info_frg rfl (by omega) v n cs ho (some ⟨vb,0,none⟩) 1 1 ys hr h1 (by unfold maxLen;omega) (by omega) hb
 obtain⟨v',w',hrun1,h2,h3⟩:=hrun 27;have hlen:=ho.1;have HR:=hid (show zd7 base v n n cs ys w (.returned v') w' from⟨v',rfl,by rw[List.take_of_length_le (by omega),List.drop_eq_nil_of_le (by omega),List.append_nil];exact h2,h3⟩)
 obtain⟨a,c,rfl⟩:∃a c,v=.slice a n c:=by
  rcases ho.2 with ⟨rfl,rfl⟩ | ⟨g,cap,cur,rfl,_⟩
  · exact⟨none,0,rfl⟩
  · exact⟨_,cap,rfl⟩
 have hrun2:(Builtin.append_ #[27,26] 27 #[.slice a n c,.slice (some ⟨vb,0,none⟩) 1 1]).run Tryz.prog w=.ok v' w':=by rw[zyj];exact hrun1
 have hnc:n≤c∧c≤9223372036854775807∧(a=none∨∃g,a=some ⟨g,0,none⟩):=by
  rcases ho.2 with ⟨h,rfl⟩ | ⟨g,cap,cur,h,_,_,h4,h5,_⟩
  · cases h;exact⟨Nat.le_refl _,by omega,.inl rfl⟩
  · cases h;unfold maxLen at h5;exact⟨h4,by omega,.inr ⟨g,rfl⟩⟩
 obtain⟨hnc,hc63,ha⟩:=hnc;clear hrun hrun1 h2 h3 ho hv hy h1 hr hlen;rcases ha with rfl | ⟨g,rfl⟩
 · go_enter Tryz.func207,Tryz.ntmps207;go_wp2_with (at_builtin;refine Lib.wpList_append_run _ rfl _ _ _ _ rfl _ _ rfl rfl _ _ hrun2 ?_);go_ret;exact HR.out
 · go_enter Tryz.func207,Tryz.ntmps207;go_wp2_with (at_builtin;refine Lib.wpList_append_run _ rfl _ _ _ _ rfl _ _ rfl rfl _ _ hrun2 ?_);all_goals (go_ret;exact HR.out)
theorem zpj {w:World} {base n c g:Nat} {cs:List Value} (ho:w.ownsRow base 97 2 (.slice (some ⟨g,0,none⟩) n c) n cs):
 ∃L:List Value,w.heap[g]?=some (.cells L.toArray 97 (0,0))∧L.length=c*2∧L.take (n*2)=cs∧n≤c∧c≤maxLen∧base≤g∧g<w.heap.size:=by
 rcases ho.2 with ⟨h,_⟩ | ⟨g',cap,cur,h,h1,h2,h3,h4,h5,h6⟩
 · cases h
 · cases h;exact⟨cur.toList,by simpa using h2,by simpa using h5,h6,h3,h4,h1,(Array.getElem?_eq_some_iff.1 h2).1⟩
set_option maxRecDepth 100000 in
theorem zyl (base g n c i vb:Nat) (cs ys:List Value) (w:World) (ho:w.ownsRow base 97 2 (.slice (some ⟨g,0,none⟩) n c) n cs) (hv:w.heap[vb]?=some (.cells ys.toArray 97 (0,0))) (hne:vb≠g) (hy:ys.length=2)
 (h1c:∀u∈cs,u.oneCell'=true) (h1:∀u∈ys,u.oneCell'=true) (hi:i<n) (hc:n+1≤c):
 Calls Tryz.prog 207 #[.slice (some ⟨g,0,none⟩) n c,.int .i64 i,.slice (some ⟨vb,0,none⟩) 1 1] w fun e w'=>zd7 base (.slice (some ⟨g,0,none⟩) n c) n i cs ys w e w':=by
 obtain⟨L,hg,hL,hcs,-,hcm,hbg,hgw⟩:=zpj ho;have hc63:c≤9223372036854775807:=by unfold maxLen at hcm;omega
 have hcl:=ho.1
 have hsz:(Tryz.prog.info? 97).map (·.size)=some 2:=by
  have h:=Tryz.info_frg
  cases hq:Tryz.prog.info? 97 with
  | none=>rw[hq] at h;cases h
  | some k=>rw[hq] at h;simp at h;simp[h]
 have hov:∀off lb cb,(callFunc 244 #[.slice (some ⟨vb,0,none⟩) 1 1,.slice (some ⟨g,off,none⟩) lb cb]).run Tryz.prog w=.ok (.value (.bool false)) w:=fun off lb cb=>by
  rw[run_callFunc_extern Tryz.func244 (by kernel_rfl) (by kernel_rfl) (by kernel_rfl) (e:=Extern.SlicesOverlaps.overlaps #[26,26] #[4]) (by kernel_rfl),
   Lib.run_overlaps_apart w 26 4 97 Tryz.underlying26 2 (zme hsz) ⟨vb,0,none⟩ ⟨g,off,none⟩ 1 1 lb cb hne 97 97 ys.length L.length (by simp[World.shape?,hv]) (by simp[World.shape?,hg]) (by omega) (by simp[World.frozen?,hv]) (by simp[World.frozen?,hv])]
  rfl
 obtain⟨A,hA⟩:∃A,A=splice L ((i+1)*2) (cs.drop (i*2)):=⟨_,rfl⟩;have hAl:A.length=c*2:=by rw[hA,length_splice _ _ _ (by rw[List.length_drop];omega),hL]
 have hcp1:∀ty,(Builtin.copy_ #[27,27] ty #[.slice (some ⟨g,(i+1)*2,none⟩) (n+1 - (i+1)) (c - (i+1)),.slice (some ⟨g,i*2,none⟩) (n+1 - i) (c - i)]).run Tryz.prog w.drew=.ok (goInt ((n - i:Nat):Int)) (w.drew.setRow g A.toArray):=fun ty=>by
  rw[hA];refine zc3 w.drew _ _ ty 97 2 g _ _ _ _ _ _ L 97 (cs.drop (i*2)) (n - i) Tryz.underlying27 hsz hg (by simp only[Nat.min_def];split <;> omega) (by rw[List.length_drop];omega) (fun j u hj=>?_) (by rw[List.length_drop];omega) (fun u hu=>h1c u (List.mem_of_mem_drop hu));rw[List.getElem?_drop] at hj;show w.cell? _=_;rw[yk];refine zcb hg ?_;rw[←hcs] at hj;rw[List.getElem?_take] at hj;split at hj
  · simpa using hj
  · exact absurd hj (by simp)
 obtain⟨W1,hW1⟩:∃W1,W1=w.drew.setRow g A.toArray:=⟨_,rfl⟩;have hg1:W1.heap[g]?=some (.cells A.toArray 97 (0,0)):=by rw[hW1];exact setRow_heap w.drew g _ _ _ _ hg
 have hv1:W1.heap[vb]?=some (.cells ys.toArray 97 (0,0)):=by rw[hW1];exact(setRow_other w.drew g vb _ hne).trans hv
 have hcp2:∀ty,(Builtin.copy_ #[27,26] ty #[.slice (some ⟨g,i*2,none⟩) (n+1 - i) (c - i),.slice (some ⟨vb,0,none⟩) 1 1]).run Tryz.prog W1=.ok (goInt ((1:Nat):Int)) (W1.setRow g (splice A (i*2) ys).toArray):=fun ty=>
  zc3 W1 _ _ ty 97 2 g _ _ _ _ _ _ A 97 ys 1 Tryz.underlying27 hsz hg1 (by simp only[Nat.min_def];split <;> omega) (by omega) (fun j u hj=>by rw[yk,Nat.zero_add];exact zcb hv1 (by simpa using hj)) (by omega) h1
 have hE:zd7 base (.slice (some ⟨g,0,none⟩) n c) n i cs ys w (.returned (.slice (some ⟨g,0,none⟩) (n+1) c)) (W1.setRow g (splice A (i*2) ys).toArray):=by
  refine⟨_,rfl,⟨by simp;omega,.inr ⟨g,c,_,rfl,hbg,setRow_heap W1 g _ _ _ _ hg1,hc,hcm,by rw[List.size_toArray,length_splice _ _ _ (show i*2+ys.length≤A.length by omega),hAl],?_⟩⟩,?_⟩
  · have h:=zmf L ys (i*2) (n*2) 2 (by omega) hy (by omega);rw[hcs] at h;rw[hA,show (i+1)*2=i*2+2 by omega,show (n+1)*2=n*2+2 by omega];simpa using h
  · refine⟨by rw[hW1];rfl,by rw[hW1];rfl,by rw[hW1];rfl,by rw[hW1];simp[World.setRow],fun k hk hkr=>?_⟩;have hkg:k≠g:=fun e=>hkr (by rw[e];rfl)
    rw[setRow_other W1 g k _ hkg,hW1];exact setRow_other w.drew g k _ hkg
 have HE:=hid hE;rw[←hW1] at hcp1;have HW1:=hid hW1;clear hE hW1 hg1 hv1 hA hAl ho hg hL hcs hcl hv hy h1c h1;have hz2:¬((i:Int)=(n:Int)):=by omega
 have hw1:IntKind.i64.wrap ((i:Int)+1)=(i:Int)+1:=by rw[IntKind.wrap_i64];omega
 have hin:i≤n:=by omega
 have hb2:¬(c=i+1):=by omega
 have hb4:¬(c=i):=by omega
 have hb1:(0:Int)≤(i:Int)+1:=by omega
 have hb3:(i:Int)≤(n:Int)+1:=by omega
 have htn:((i:Int)+1).toNat=i+1:=by omega
 go_enter Tryz.func207,Tryz.ntmps207;go_wp2_with (simp only[hov]);go_region_law (refine zgr rfl _ _ 27 27 rfl (.slice (some ⟨g,(i+1)*2,none⟩) (n+1 - (i+1)) (c - (i+1))) (.slice (some ⟨g,i*2,none⟩) (n+1 - i) (c - i)) (by simp[Act.eval,Act.put] <;> omega) (by simp[Act.eval,Act.put] <;> omega) (hcp1 _) ?_)
 go_wp2_with (at_builtin;refine zgq rfl _ _ 27 26 rfl (.slice (some ⟨g,i*2,none⟩) (n+1 - i) (c - i)) (.slice (some ⟨vb,0,none⟩) 1 1) (by simp[Act.eval,Act.put] <;> omega) (by simp[Act.eval,Act.put]) (hcp2 _) ?_);go_ret;exact HE.out
set_option maxRecDepth 100000 in
theorem zym (base g n c i vb:Nat) (cs ys:List Value) (w:World) (ho:w.ownsRow base 97 2 (.slice (some ⟨g,0,none⟩) n c) n cs) (hv:w.heap[vb]?=some (.cells ys.toArray 97 (0,0))) (hy:ys.length=2)
 (h1c:∀u∈cs,u.oneCell'=true) (h1:∀u∈ys,u.oneCell'=true) (hi:i<n) (hc:c<n+1) (hn:n+1≤1000000) (hb:base≤w.heap.size):
 Calls Tryz.prog 207 #[.slice (some ⟨g,0,none⟩) n c,.int .i64 i,.slice (some ⟨vb,0,none⟩) 1 1] w fun e w'=>zd7 base (.slice (some ⟨g,0,none⟩) n c) n i cs ys w e w':=by
 obtain⟨L,hg,hL,hcs,hnc,hcm,hbg,hgw⟩:=zpj ho;have hc63:c≤9223372036854775807:=by unfold maxLen at hcm;omega
 have hcl:=ho.1;have hvw:vb<w.heap.size:=(Array.getElem?_eq_some_iff.1 hv).1;obtain⟨i0,hi0,hz0,hzs,hzb⟩:=info_parts Tryz.info_frg;have hsz:(Tryz.prog.info? 97).map (·.size)=some 2:=by rw[hi0];simp[hzs]
 have hcell:∀j v,cs[j]?=some v→w.cell? ⟨g,j,none⟩=some v:=fun j v hj=>by
  refine zcb hg ?_;rw[←hcs,List.getElem?_take] at hj;split at hj
  · simpa using hj
  · exact absurd hj (by simp)
 have hold:(Builtin.firstCells i0.size i (.slice (some ⟨g,0,none⟩) i c)).run Tryz.prog w.drew=.ok (cs.take (i*2)).toArray w.drew:=by
  rw[hzs]
  exact run_firstCells_some w.drew 2 i ⟨g,0,none⟩ i c (cs.take (i*2)) (by rw[List.length_take];omega) (fun j v hj=>by
   rw[yk,Nat.zero_add];rw[List.getElem?_take] at hj;split at hj
   · exact hcell j v hj
   · cases hj)
 have hik:i+(n+1 - i)=n+1:=by omega
 obtain⟨G,hG⟩:∃G,G=grownCap w (n+1) c 97:=⟨_,rfl⟩;obtain⟨Z,hZ⟩:∃Z:List Value,Z=cs.take (i*2)++((Builtin.zeroCells (Value.cells (.agg #[.slice none 0 0,.slice none 0 0])) (n+1 - i)).toList++(Builtin.zeroCells (Value.cells (.agg #[.slice none 0 0,.slice none 0 0])) (G - (n+1))).toList):=⟨_,rfl⟩
 have hrz:∀ty,(Builtin.append_ #[27,3] ty #[.slice (some ⟨g,0,none⟩) i c,.int .i64 ((n:Int)+1 - (i:Int))]).run Tryz.prog w=
  .ok (.slice (some ⟨w.heap.size,0,none⟩) (n+1) G) (w.drew.alloc (.cells Z.toArray 97)):=fun ty=>by
  have h:=Lib.run_append_grow_zeros w 27 3 ty 97 i0 _ .i64 .i64 Tryz.underlying27 Tryz.underlying3 hi0 hz0 (some ⟨g,0,none⟩) i c (cs.take (i*2)) hold (n+1 - i) (by omega) (by omega) (by omega) (by omega) (by rw[hzb];omega) (by rw[hzb,hik];exact growslice_fits hc (by omega));rw[hik,←hG] at h
  have hZa:(cs.take (i*2)).toArray++Builtin.zeroCells (Value.cells (.agg #[.slice none 0 0,.slice none 0 0])) (n+1 - i)++Builtin.zeroCells (Value.cells (.agg #[.slice none 0 0,.slice none 0 0])) (G - (n+1))=Z.toArray:=by
   rw[hZ];apply Array.ext';simp
  rw[hZa] at h;rw[show (n:Int)+1 - (i:Int)=((n+1 - i:Nat):Int) by omega,h]
 have hGn:n+1≤G:=by rw[hG];exact grownCap_ge w _ _ _
 have hGm:G≤maxLen:=by rw[hG];exact grownCap_le_maxLen w (n+1) c 97 (by unfold maxLen;omega)
 have hG63:G≤9223372036854775807:=by unfold maxLen at hGm;omega
 have hZl:Z.length=G*2:=by
  have hz:∀k,(Builtin.zeroCells (Value.cells (.agg #[.slice none 0 0,.slice none 0 0])) k).toList.length=k*2:=fun k=>by rw[Array.length_toList,size_zeroCells];rfl
  rw[hZ,List.length_append,List.length_append,List.length_take,hz,hz];omega
 have hZt:Z.take (i*2)=cs.take (i*2):=by
  rw[hZ,List.take_append_of_le_length (by rw[List.length_take];omega)];exact List.take_of_length_le (by rw[List.length_take];omega)
 obtain⟨W1,hW1⟩:∃W1,W1=w.drew.alloc (.cells Z.toArray 97):=⟨_,rfl⟩;rw[←hW1] at hrz;have n1:W1.heap[w.heap.size]?=some (.cells Z.toArray 97 (0,0)):=by rw[hW1];exact heap_alloc_new w.drew _
 have o1:∀k,k<w.heap.size→W1.heap[k]?=w.heap[k]?:=fun k hk=>by rw[hW1];exact Below.heap_alloc w.drew _ k hk
 have hcpA:∀ty,(Builtin.copy_ #[27,26] ty #[.slice (some ⟨w.heap.size,i*2,none⟩) (n+1 - i) (G - i),.slice (some ⟨vb,0,none⟩) 1 1]).run Tryz.prog W1=.ok (goInt ((1:Nat):Int)) (W1.setRow w.heap.size (splice Z (i*2) ys).toArray):=fun ty=>
  zc3 W1 _ _ ty 97 2 w.heap.size _ _ _ _ _ _ Z 97 ys 1 Tryz.underlying27 hsz n1 (by simp only[Nat.min_def];split <;> omega) (by omega) (fun j u hj=>by rw[yk,Nat.zero_add];exact zcb ((o1 vb hvw).trans hv) (by simpa using hj)) (by omega) h1
 obtain⟨W2,hW2⟩:∃W2,W2=W1.setRow w.heap.size (splice Z (i*2) ys).toArray:=⟨_,rfl⟩;rw[←hW2] at hcpA;have n2:W2.heap[w.heap.size]?=some (.cells (splice Z (i*2) ys).toArray 97 (0,0)):=by rw[hW2];exact setRow_heap W1 _ _ _ _ _ n1
 have o2:∀k,k<w.heap.size→W2.heap[k]?=w.heap[k]?:=fun k hk=>by rw[hW2];exact(setRow_other W1 _ k _ (by omega)).trans (o1 k hk)
 have hl2:(splice Z (i*2) ys).length=G*2:=by rw[length_splice _ _ _ (by omega),hZl]
 have hcpB:∀ty,(Builtin.copy_ #[27,27] ty #[.slice (some ⟨w.heap.size,(i+1)*2,none⟩) (n+1 - (i+1)) (G - (i+1)),.slice (some ⟨g,i*2,none⟩) (n - i) (c - i)]).run Tryz.prog W2.drew=.ok (goInt ((n - i:Nat):Int)) (W2.drew.setRow w.heap.size (splice (splice Z (i*2) ys) ((i+1)*2) (cs.drop (i*2))).toArray):=fun ty=>by
  refine zc3 W2.drew _ _ ty 97 2 w.heap.size _ _ _ _ _ _ _ 97 (cs.drop (i*2)) (n - i) Tryz.underlying27 hsz n2 (by simp only[Nat.min_def];split <;> omega) (by rw[List.length_drop];omega) (fun j u hj=>?_) (by rw[List.length_drop];omega) (fun u hu=>h1c u (List.mem_of_mem_drop hu));rw[List.getElem?_drop] at hj;show W2.cell? _=_;rw[yk];have h:=hcell _ u hj;simp only[World.cell?,o2 g hgw] at h ⊢;exact h
 obtain⟨C,hC⟩:∃C,C=splice (splice Z (i*2) ys) ((i+1)*2) (cs.drop (i*2)):=⟨_,rfl⟩;have hl3:C.length=G*2:=by rw[hC,length_splice _ _ _ (by rw[List.length_drop];omega),hl2]
 have hCt:C.take ((n+1)*2)=cs.take (i*2)++(ys++cs.drop (i*2)):=by
  have h:=zmg Z ys cs (i*2) (n*2) 2 (by omega) hcl hy (by omega) hZt;rw[hC,show (i+1)*2=i*2+2 by omega,show (n+1)*2=n*2+2 by omega];exact h
 rw[←hC] at hcpB
 have hE:zd7 base (.slice (some ⟨g,0,none⟩) n c) n i cs ys w (.returned (.slice (some ⟨w.heap.size,0,none⟩) (n+1) G)) (W2.drew.setRow w.heap.size C.toArray):=by
  refine⟨_,rfl,⟨by simp;omega,.inr ⟨w.heap.size,G,_,rfl,hb,setRow_heap W2.drew _ _ _ _ _ n2,hGn,hGm,by rw[List.size_toArray,hl3],?_⟩⟩,?_⟩
  · simpa using hCt
  · refine⟨by rw[hW2,hW1];rfl,by rw[hW2,hW1];rfl,by rw[hW2,hW1];rfl,by rw[hW2,hW1];simp[World.setRow],fun k hk hkr=>?_⟩;rw[setRow_other W2.drew _ k _ (by omega)];exact o2 k hk
 have HE:=hid hE;obtain⟨W3,hW3⟩:∃W3,W3=W2.drew.setRow w.heap.size C.toArray:=⟨_,rfl⟩;rw[←hW3] at hcpB HE;obtain⟨N,hN⟩:∃N,N=w.heap.size:=⟨_,rfl⟩;have hgN:g≠N:=by omega
 have hvN:vb≠N:=by omega
 rw[←hN] at hcpA hcpB HE hrz;clear hE hW3 hN hC hl3 hCt hW2 n2 o2 hl2 hW1 n1 o1 hZ hZl hZt hG hold hcell hcl hcs hL hg ho hv hy h1c h1 hi0 hz0 hzs hzb hsz hb hcm hGm;have hz2:¬((i:Int)=(n:Int)):=by omega
 have hz3:(c:Int)<(n:Int)+1:=by omega
 have hGi:¬(G=i):=by omega
 have hGim:¬(G=i+1):=by omega
 have hci:¬(c=i):=by omega
 have hw1:IntKind.i64.wrap ((i:Int)+1)=(i:Int)+1:=by rw[IntKind.wrap_i64];omega
 have hb1:(0:Int)≤(i:Int)+1:=by omega
 have hin:i≤n:=by omega
 have htn:((i:Int)+1).toNat=i+1:=by omega
 have hb3:(i:Int)≤(n:Int):=by omega
 clear hik;go_enter Tryz.func207,Tryz.ntmps207
 go_wp2_with (first
  | (at_builtin;refine Lib.wpList_append_run _ rfl _ _ _ _ rfl _ _ rfl rfl _ _ (hrz _) ?_)
  | (at_builtin;refine zgq rfl _ _ 27 26 rfl (.slice (some ⟨N,i*2,none⟩) (n+1 - i) (G - i)) (.slice (some ⟨vb,0,none⟩) 1 1) (by simp[Act.eval,Act.put] <;> omega) (by simp[Act.eval,Act.put]) (hcpA _) ?_))
 go_region_law (refine zgr rfl _ _ 27 27 rfl (.slice (some ⟨N,(i+1)*2,none⟩) (n+1 - (i+1)) (G - (i+1))) (.slice (some ⟨g,i*2,none⟩) (n - i) (c - i)) (by simp[Act.eval,Act.put] <;> omega) (by simp[Act.eval,Act.put] <;> omega) (hcpB _) ?_)
 go_wp2;go_ret;exact HE.out
theorem zyn (base:Nat) (v:Value) (n i vb:Nat) (cs ys:List Value) (w:World) (ho:w.ownsRow base 97 2 v n cs) (hv:w.heap[vb]?=some (.cells ys.toArray 97 (0,0))) (hne:v.ownBlock≠some vb) (hy:ys.length=2)
 (h1c:∀u∈cs,u.oneCell'=true) (h1:∀u∈ys,u.oneCell'=true) (hi:i≤n) (hn:n+1≤1000000) (hb:base≤w.heap.size):
 Calls Tryz.prog 207 #[v,.int .i64 i,.slice (some ⟨vb,0,none⟩) 1 1] w fun e w'=>zd7 base v n i cs ys w e w':=by
 by_cases hin:i=n
 · subst hin;exact zyk base v _ vb cs ys w ho hv hy h1 hn hb
 · rcases ho.2 with ⟨rfl,rfl⟩ | ⟨g,cap,cur,rfl,_,_,h4,_⟩
   · omega
   · by_cases hc:n+1≤cap
     · exact zyl base g n cap i vb cs ys w ho hv (fun e=>hne (by rw[e];rfl)) hy h1c h1 (by omega) hc
     · exact zym base g n cap i vb cs ys w ho hv hy h1c h1 (by omega) (by omega) hn hb
end
section
open Go.ChangeShapes Go.WideShapes Go.RowKit
theorem Lay.own:ownKnob Tryz.prog.godebug=none:=by kernel_rfl
theorem Lay.et:Tryz.prog.globalNamed "errors.errorType" =some 0:=by kernel_rfl
theorem Lay.rt:(Tryz.prog.cutTypes.find? (·.1 == "internal/reflectlite.rtype")).map (·.2)=some 229:=by kernel_rfl
theorem Lay.oneRow:((List.range 420).filter fun t=>Tryz.prog.rowNamed t [101,114,114,111,114])=[29]:=by kernel_rfl
theorem Lay.size:Tryz.prog.types.size=420:=by kernel_rfl
theorem zyo {W:World} (h':handlesMet Tryz.prog [("errors.errorType",Rows.laid_errors_errorType)] W):Door W:=by
 obtain⟨name,u,ty,e1,e2,e3,e4,e5⟩:=h' _ (List.mem_singleton.2 rfl);have en:name=[101,114,114,111,114]:=(Option.some.inj e1).symm;subst en;obtain rfl:=Option.some.inj (Lay.rt.symm.trans e2);have hm:ty∈(List.range 420).filter fun t=>Tryz.prog.rowNamed t [101,114,114,111,114]:=List.mem_filter.2 ⟨List.mem_range.2 (by rw[←Lay.size];exact e3),e4⟩
 rw[Lay.oneRow] at hm;obtain rfl:=List.mem_singleton.1 hm;have hh:typeHandle Tryz.prog 29=.pointer (some ⟨1,29,none⟩):=by kernel_rfl
 rw[hh] at e5;have:=World.var?_cell Lay.et e5 0;unfold Door;simpa using this
noncomputable def zhu (os:Os):World:=World.doorLaid Tryz.prog 21 os
theorem zyp (os:Os):(zhu os).os=os:=rfl
theorem zyq (os:Os) (args:Array Value):((zhu os).forCall (fun _ _=>0) ⟨#[],args,[]⟩).Shaped Tryz.prog:=World.shaped_of_ZipB (by kernel_rfl) (by kernel_rfl)
theorem zyr {H:Type} {enc:TypeId×Value→H} {a:Assume} {C:Checked} {os:Os} {f:FuncId} {fn:Func} {s:ChangeSpec} {conds:List PathCond} {apart fresh handsOn again:Bool} {X:World→Array Value→Prop}
 (hX:∀(w w':World) (args:Array Value),w.heap=w'.heap→X w args→X w' args)
 (own:ownKnob C.prog.godebug=none) (started:os.Started) (noInit:C.prog.inits.idxOf? f=none) (hfn:C.prog.funcs[f]?=some fn)
 (witness:∃(w:World) (tape:Tape) (i:Input),w.os=os∧(w.forCall tape i).Shaped C.prog∧i.vars=[]∧Input.okWide C.prog (w.forCall tape i) .any w.heap.size f i∧
   ((s.pre enc C.prog fn conds apart (w.forCall tape i).memory i.args∧X (w.forCall tape i).memory i.args)∧sizedMet enc C.prog fn (OpenSpec.ofChange s) apart (w.forCall tape i).memory i.args)∧a.holds C.prog (lone (Frame.enter C.prog f i.args .normal) [] (w.forCall tape i)))
 (contract:∀(W:World) (base:Nat) (args:Array Value) (ds gs:List (DataW H)) (before:List MemPlace),
   (∀(j:Nat) t v,fn.params[j]?=some t→args[j]?=some v→Value.okWide C.prog W .any base t v)→
   DataW.Whole enc C.prog fn.params.toList s.vars apart W args.toList ds gs before→
   conds.all (PathCond.test C.prog ⟨fn.params.toList,ds,s.plain.varTypes C.prog,gs⟩)=true→
   (DataW.weightsEach C.prog (fn.params.toList++s.plain.varTypes C.prog) (ds++gs)).all (· ≤reachBytes)=true→X W args→W.ShapedOpen C.prog→
   a.holds C.prog (lone (Frame.enter C.prog f args .normal) [] W)→
   Calls C.prog f args W fun e W'=>∃v,e=.returned v∧s.post enc C.prog fn apart fresh handsOn again W args v W'):
 ReturnsInHanded a C os f .any (fun w args=>(s.pre enc C.prog fn conds apart w args∧X w args)∧sizedMet enc C.prog fn (OpenSpec.ofChange s) apart w args) (s.post enc C.prog fn apart fresh handsOn again):=by
 refine returnsInHanded_of_calls own started noInit witness ?_;intro w tape i _ hsh _ hok hpre hholds;obtain⟨_,_,_,fn',hfn',_,_,_,_,hval⟩:=hok;have e:fn'=fn:=Option.some.inj (hfn'.symm.trans hfn);subst e;obtain⟨⟨⟨ds,gs,before,hw,hc⟩,hx⟩,hz⟩:=hpre;have hw':=DataW.Whole.of_heap (w':=w.forCall tape i) (by rfl) hw;refine(contract (w.forCall tape i) w.heap.size i.args ds gs before hval hw' hc (hz.weights hw) (hX _ _ _ (by rfl) hx) hsh hholds).mono fun e W' ⟨v,he,hp⟩=>?_
 subst he;exact ChangeSpec.post_blind hp
theorem zhv {z:Int} (h:(Lit.int .u64 z).wf=true):∃n:Nat,z=n∧n<18446744073709551616:=by
 have h':0≤z∧z≤18446744073709551615:=by
  simp[Lit.wf,IntKind.min,IntKind.max,IntKind.bits,IntKind.signed] at h;omega
 exact⟨z.toNat,by omega,by omega⟩
theorem z5v {z:Int} (h:(Lit.int .u8 z).wf=true):∃n:Nat,z=n∧n<256:=by
 have h':0≤z∧z≤255:=by
  simp[Lit.wf,IntKind.min,IntKind.max,IntKind.bits,IntKind.signed] at h;omega
 exact⟨z.toNat,by omega,by omega⟩
theorem zkq {w:World} {b o d:Nat} {k:Option Nat} {v:Value} (h:w.cell? ((⟨b,o,k⟩:Addr).add (0*d))=some v):k=none:=by
 cases k with
 | none=>rfl
 | some j=>
  rw[Nat.zero_mul] at h;have hx:((⟨b,o,some j⟩:Addr).add 0)=⟨b,o,some j⟩:=rfl;rw[hx] at h;unfold World.cell? at h;split at h <;> simp at h
section
variable {H:Type} {enc:TypeId×Value→H} {W:World} {fuel:Nat} {x:DataW H×List MemPlace}
theorem zys {P:Program} {base:Nat} {spare:Nat→Bool} {held:Bool} {t e:TypeId} {f0 f1 f2:Field} {cs:List Value} (ht:P.underlying t=some (.slice e)) (he:P.underlying e=some (.struct #[f0,f1,f2]))
 (ce:P.cellsOf e=3) (o0:f0.offset=0) (o1:f1.offset=1) (o2:f2.offset=2) (c0:P.cellsOf f0.type=1) (c1:P.cellsOf f1.type=1) (c2:P.cellsOf f2.type=1)
 (h:DataW.trod enc P W base spare held fuel t cs=some x):
 cs=[.slice none 0 0]∨∃(a:Addr) (len cap m n:Nat),cs=[.slice (some a) len cap]∧len≤cap∧cap≤maxLen∧m=(if spare a.block then cap else len)∧
  ∀i,i<m→∃v0 v1 v2 y0 y1 y2,W.cell? (a.add (i*3))=some v0∧W.cell? (a.add (i*3+1))=some v1∧W.cell? (a.add (i*3+2))=some v2∧
   DataW.trod enc P W base spare held n f0.type [v0]=some y0∧DataW.trod enc P W base spare held n f1.type [v1]=some y1∧DataW.trod enc P W base spare held n f2.type [v2]=some y2:=by
 rcases Deep.open_slice ht h with ⟨h0,-⟩ | ⟨a,len,cap,m,n,D,Pl,rfl,hb,hl,hm,hmm,rfl,hx⟩
 · exact Or.inl h0
 right;refine⟨a,len,cap,m,n - 1,rfl,hl,hm,hmm,fun i hi=>?_⟩;obtain⟨cs',h1,h2⟩:=hx i hi;rw[ce] at h1;obtain⟨_,hlen,hcell⟩:=World.cells?_some h1;obtain⟨xs,k,hk,hxy,_,hxl,hf⟩:=DataW.trod_struct he h2;have hk':k=n - 1:=by omega
 subst hk'
 match xs,hxl,cs',hlen with
 | [y0,y1,y2],_,[v0,v1,v2],_=>
  have g0:=hf 0 f0 rfl;have g1:=hf 1 f1 rfl;have g2:=hf 2 f2 rfl;simp[o0,o1,o2,c0,c1,c2] at g0 g1 g2;have e0:=hcell 0 (by omega);have e1:=hcell 1 (by omega);have e2:=hcell 2 (by omega);rw[Deep.add_add] at e0 e1 e2;exact⟨v0,v1,v2,y0,y1,y2,by simpa using e0,by simpa using e1,by simpa using e2,g0,g1,g2⟩
theorem zpk {v:Value} (h:DataW.trod enc Tryz.prog W 0 (fun _=>true) true fuel 91 [v]=some x):∃a n c l,v=.slice a n c∧Ivs W a n c l:=by
 rcases Deep.open_slice_pairs Tryz.underlying91 Tryz.underlying89 (by kernel_rfl) rfl rfl (by kernel_rfl) (by kernel_rfl) h with ⟨hcs,_⟩ | ⟨ad,len,cap,m,n,V0,V1,D0,D1,P0,P1,hcs,hb,hl,hm,hmm,hx,hc⟩
 · simp at hcs;subst hcs;exact⟨none,0,0,[],rfl,zgu _⟩
 · simp at hcs;subst hcs
   have each:∀i,i<m→∃s:Iv,W.cell? (ad.add (i*2))=some (.int .u64 ((s.1:Nat):Int))∧W.cell? (ad.add (i*2+1))=some (.int .u64 ((s.2:Nat):Int))∧s.1<18446744073709551616∧s.2<18446744073709551616:=by
    intro i hi;obtain⟨h1,h2,h3,h4⟩:=hc i hi;obtain⟨z0,e0,_,w0⟩:=DataW.trod_int Tryz.underlying43 h3;obtain⟨z1,e1,_,w1⟩:=DataW.trod_int Tryz.underlying43 h4;obtain⟨n0,rfl,l0⟩:=zhv w0;obtain⟨n1,rfl,l1⟩:=zhv w1;simp only[List.cons.injEq,and_true] at e0 e1;rw[e0] at h1;rw[e1] at h2;exact⟨(n0,n1),h1,h2,l0,l1⟩
   obtain⟨f,hf⟩:=Deep.choose_lt each;have hmc:m=cap:=by simpa using hmm
   refine⟨some ad,len,cap,(List.range len).map f,rfl,by simp,?_,hl,by unfold maxLen at hm;omega,(by intro h;cases h),fun hn=>?_⟩
   · intro s hs;obtain⟨i,hi,rfl⟩:=List.mem_map.1 hs;have hi':i<len:=List.mem_range.1 hi;exact(hf i (by omega)).2.2
   · obtain⟨b,o,k⟩:=ad;obtain rfl:k=none:=zkq (hf 0 (by omega)).1;refine⟨b,o,rfl,fun i hi=>?_⟩;obtain⟨h1,h2,_,_⟩:=hf i (by omega);rw[yk] at h1 h2;have e:za ((List.range len).map f) i=f i:=by rw[yw (by simpa using hi)];simp
     rw[e,Nat.add_assoc];exact⟨h1,h2⟩
theorem zyt {v:Value} (h:DataW.trod enc Tryz.prog W 0 (fun _=>true) true fuel 95 [v]=some x):∃a n c l,v=.slice a n c∧Ents W a n c l:=by
 rcases zys Tryz.underlying95 Tryz.underlying93 (by kernel_rfl) rfl rfl rfl (by kernel_rfl) (by kernel_rfl) (by kernel_rfl) h with hcs | ⟨ad,len,cap,m,n,hcs,hl,hm,hmm,hc⟩
 · simp at hcs;subst hcs;exact⟨none,0,0,[],rfl,zoc _⟩
 · simp at hcs;subst hcs
   have each:∀i,i<m→∃e:Ent,W.cell? (ad.add (i*3))=some (.int .u64 ((e.1:Nat):Int))∧W.cell? (ad.add (i*3+1))=some (.int .u64 ((e.2.1:Nat):Int))∧LtE e∧
    ∃x k c,W.cell? (ad.add (i*3+2))=some (.slice x k c)∧Ivs W x k c e.2.2:=by
    intro i hi;obtain⟨v0,v1,v2,y0,y1,y2,h1,h2,h3,g0,g1,g2⟩:=hc i hi;obtain⟨z0,e0,_,w0⟩:=DataW.trod_int Tryz.underlying43 g0;obtain⟨z1,e1,_,w1⟩:=DataW.trod_int Tryz.underlying43 g1;obtain⟨a,k,c,l,rfl,hI⟩:=zpk g2;obtain⟨n0,rfl,l0⟩:=zhv w0;obtain⟨n1,rfl,l1⟩:=zhv w1;simp only[List.cons.injEq,and_true] at e0 e1;rw[e0] at h1;rw[e1] at h2;exact⟨(n0,n1,l),h1,h2,⟨l0,l1,hI.lt⟩,a,k,c,h3,hI⟩
   obtain⟨f,hf⟩:=Deep.choose_lt each;have hmc:m=cap:=by simpa using hmm
   refine⟨some ad,len,cap,(List.range len).map f,rfl,by simp,?_,hl,by unfold maxLen at hm;omega,(by intro h;cases h),fun hn=>?_⟩
   · intro s hs;obtain⟨i,hi,rfl⟩:=List.mem_map.1 hs;have hi':i<len:=List.mem_range.1 hi;exact(hf i (by omega)).2.2.1
   · obtain⟨b,o,k⟩:=ad;obtain rfl:k=none:=zkq (hf 0 (by omega)).1;refine⟨b,o,rfl,fun i hi=>?_⟩;obtain⟨h1,h2,-,x,k,c,h3,h4⟩:=hf i (by omega);rw[yk] at h1 h2 h3;have e:ze ((List.range len).map f) i=f i:=by rw[ja (by simpa using hi)];simp
     rw[e,Nat.add_assoc,Nat.add_assoc];exact⟨h1,h2,x,k,c,h3,h4⟩
theorem z5w {v:Value} (h:DataW.trod enc Tryz.prog W 0 (fun _=>true) true fuel 27 [v]=some x):∃a n c k,v=.slice a n c∧Frags W a n c k:=by
 rcases Deep.open_slice_pairs Tryz.underlying27 Tryz.underlying97 (by kernel_rfl) rfl rfl (by kernel_rfl) (by kernel_rfl) h with ⟨hcs,_⟩ | ⟨ad,len,cap,m,n,V0,V1,D0,D1,P0,P1,hcs,hb,hl,hm,hmm,hx,hc⟩
 · simp at hcs;subst hcs;exact⟨none,0,0,[],rfl,zey _⟩
 · simp at hcs;subst hcs
   have each:∀i,i<m→∃f:Frg,IvCell W (ad.add (i*2)) f.1∧EnCell W (ad.add (i*2+1)) f.2:=by
    intro i hi;obtain⟨h1,h2,h3,h4⟩:=hc i hi;obtain⟨a,k,c,l,e0,hI⟩:=zpk h3;obtain⟨a',k',c',l',e1,hV⟩:=zyt h4;rw[e0] at h1;rw[e1] at h2;exact⟨(l,l'),⟨a,k,c,h1,hI⟩,⟨a',k',c',h2,hV⟩⟩
   obtain⟨f,hf⟩:=Deep.choose_lt each;have hmc:m=cap:=by simpa using hmm
   refine⟨some ad,len,cap,(List.range len).map f,rfl,by simp,hl,by unfold maxLen at hm;omega,(by intro h;cases h),fun hn=>?_⟩;obtain⟨b,o,k⟩:=ad
   obtain rfl:k=none:=by
    obtain⟨⟨_,_,_,h1,_⟩,_⟩:=hf 0 (by omega);exact zkq h1
   refine⟨b,o,rfl,fun i hi=>?_⟩;obtain⟨h1,h2⟩:=hf i (by omega);rw[yk] at h1 h2;have e:zb ((List.range len).map f) i=f i:=by rw[ym (by simpa using hi)];simp
   rw[e,Nat.add_assoc];exact⟨h1,h2⟩
end
end
section
open Go.RowKit Go.Shelf
theorem zpl (aa ab:Option Addr) (na ca nb cb:Nat) (a b:List Iv) (w:World) (hIa:Ivs w aa na ca a) (hIb:Ivs w ab nb cb b) (ga:Good a) (gb:Good b) (hn:2*a.length+2*b.length+1≤900000):
 Calls Tryz.prog 206 #[.slice aa na ca,.slice ab nb cb] w fun e w'=>zew w.heap.size (opL gOr a b) e w'∧Below w.heap.size w w':=by
 have hC:=hid (zxs aa ab na ca nb cb a b w hIa hIb ga gb hn);clear hIa hIb ga gb hn;go_enter Tryz.func206,Tryz.ntmps206;go_wp2_with fail;refine hC.out.mono ?_;rintro e w1 ⟨⟨v,rfl,ho⟩,hb⟩;have Ho:=hid ho;have Hb:=hid hb;clear ho hb;go_wp2;go_ret;exact⟨⟨v,rfl,Ho.out⟩,Hb.out⟩
theorem zyu (aa ab:Option Addr) (na ca nb cb:Nat) (a b:List Iv) (w:World) (hIa:Ivs w aa na ca a) (hIb:Ivs w ab nb cb b) (ga:Good a) (gb:Good b) (hn:2*a.length+2*b.length+1≤900000):
 Calls Tryz.prog 298 #[.slice aa na ca,.slice ab nb cb] w fun e w'=>zew w.heap.size (opL js a b) e w'∧Below w.heap.size w w':=by
 have hC:=hid (zxq aa ab na ca nb cb a b w hIa hIb ga gb hn);clear hIa hIb ga gb hn;go_enter Tryz.func298,Tryz.ntmps298;go_wp2_with fail;refine hC.out.mono ?_;rintro e w1 ⟨⟨v,rfl,ho⟩,hb⟩;have Ho:=hid ho;have Hb:=hid hb;clear ho hb;go_wp2;go_ret;exact⟨⟨v,rfl,Ho.out⟩,Hb.out⟩
theorem zpm (aa:Option Addr) (na ca:Nat) (a:List Iv) (s:Iv) (w:World) (hIa:Ivs w aa na ca a) (ga:Good a) (hs:s.1≤s.2) (hs2:s.2<18446744073709551616) (hn:2*a.length+3≤900000):
 Calls Tryz.prog 289 #[.slice aa na ca,ivV s] w fun e w'=>zew w.heap.size (opL js [s] a) e w'∧Below w.heap.size w w':=by
 obtain⟨p,q⟩:=s;have HI:=hid hIa;have Hg:=hid ga;have Hn:=hid hn;have Hs:=hid (And.intro hs hs2);clear hIa ga hn hs hs2;go_enter Tryz.func289,Tryz.ntmps289;go_wp2_with fail;have hb1:Below w.heap.size w ((w.alloc (.cells #[.int .u64 p,.int .u64 q] 89)).alloc (.cells #[.int .u64 p,.int .u64 q] 89)):=((Below.refl _ _).alloc (Nat.le_refl _) _).alloc (by simp) _;have hr:((w.alloc (.cells #[.int .u64 p,.int .u64 q] 89)).alloc (.cells #[.int .u64 p,.int .u64 q] 89)).heap[w.heap.size+1]?=some (.cells #[.int .u64 p,.int .u64 q] 89):=yh (by simp);have Hb1:=hid hb1;refine(zyu _ _ _ _ _ _ [(p,q)] a _ (zjt hr ⟨by have:=Hs.out;simp at this ⊢;omega,Hs.out.2⟩) (HI.out.below hb1) Hs.out.1 Hg.out (by have:=Hn.out;simp;omega)).mono ?_;rintro e w1 ⟨⟨v,rfl,ho⟩,hb⟩;have Ho:=hid ho;have Hb:=hid hb;clear ho hb hr hb1;go_wp2;go_ret;exact⟨⟨v,rfl,vz Ho.out Hb1.out.size⟩,Hb1.out.trans (Hb.out.mono Hb1.out.size)⟩
theorem zpn (t:Nat) (w:World):Calls Tryz.prog 290 #[.int .u64 t] w fun e w'=>e=.returned (ivV (0,t))∧Below w.heap.size w w':=by
 go_enter Tryz.func290,Tryz.ntmps290;go_wp2;refine bodyPost_ret (v:=ivV (0,t)) (by simp[results,Tryz.results290,go_sem]) rfl ?_;exact⟨rfl,(Below.refl _ _).alloc (Nat.le_refl _) _⟩
end
section
open Go.RowKit
theorem zyv (a:Option Addr) (n c:Nat) (l:List Iv) (w:World) (hI:Ivs w a n c l) (hn:n≤100000):
 Calls Tryz.prog 208 #[.slice a n c] w fun e w'=>zew w.heap.size l e w'∧Below w.heap.size w w':=by
 have HI:=hid hI;have hlen:=hI.len;have hnil:=hI.nilc;have hroom:=hI.room;clear hI
 cases a with
 | none=>
  have hc:=hnil rfl;have hl:l=[]:=by apply List.eq_nil_of_length_eq_zero;omega
  subst hl;have hq:∀(w:World) (n c:Nat),(binOp .eql 91 (.slice none n c) (.slice none 0 0)).run Tryz.prog w=.ok (.bool true) w:=fun (w:World) (n c:Nat)=>Lib.run_eql_slice_nil (P:=Tryz.prog) w 91 89 none n c 0 0 Tryz.underlying91
  clear hnil HI hc hlen hroom;go_enter Tryz.func208,Tryz.ntmps208;go_wp2;go_ret
  exact⟨⟨_,rfl,World.ownsRow_nil _ _ _ _⟩,Below.refl _ _⟩
 | some p=>
  have hal:Below w.heap.size w (w.alloc (.cells #[] 89)):=(Below.refl _ _).alloc (Nat.le_refl _) _;have Hal:=hid hal;have Ho:=hid (zvd (w:=w.alloc (.cells #[] 89)) (base:=w.heap.size) (e:=89) (sz:=2) (yh rfl) (Nat.le_refl _));have Hr:=hid ((HI.out.below hal).rd);have hq:∀(w:World) (n c:Nat),(binOp .eql 91 (.slice (some p) n c) (.slice none 0 0)).run Tryz.prog w=.ok (.bool false) w:=fun (w:World) (n c:Nat)=>Lib.run_eql_slice_nil (P:=Tryz.prog) w 91 89 (some p) n c 0 0 Tryz.underlying91
  clear hal hnil HI;go_enter Tryz.func208,Tryz.ntmps208;go_wp2_with (at_builtin;refine zf1 rfl _ _ rfl rfl w.heap.size _ 0 [] rfl Ho.out _ n c l rfl Hr.out (by omega) (by simp) ?_;intro v' w8 ho8 hg8);have Hb8:=hid (Below.grown Hal.out hg8 (by simp) (fun k hk=>by cases hk;exact Nat.le_refl _));go_ret;exact⟨⟨v',rfl,by rw[hlen];simpa using ho8⟩,Hb8.out⟩
end
section
open Go.RowKit Go.Shelf
attribute [local go_sem] Oper.semAt_some zdy
theorem zpo (a:Option Addr) (n c t:Nat) (w:World):Calls Tryz.prog 213 #[.slice a n c,.int .u64 t] w fun e w'=>
 e=.returned (.func (.func 251) #[] #[.pointer (some ⟨w.heap.size,0,none⟩),.pointer (some ⟨w.heap.size+1,0,none⟩)])∧w'=(w.alloc (.cells #[.slice a n c] 27)).alloc (.cells #[.int .u64 t] 43):=by
 go_enter Tryz.func213,Tryz.ntmps213;go_wp2;go_ret;exact⟨by simp,rfl⟩
theorem zf2 (w:World) (x y:Value) (T:TypeId) (w':World) (h:Below (w.alloc (.cells #[x,y] T)).heap.size (w.alloc (.cells #[x,y] T)) w'):
 w'.cell? ⟨w.heap.size,0,none⟩=some x∧w'.cell? ⟨w.heap.size,1,none⟩=some y:=by
 have hrow:(w.alloc (.cells #[x,y] T)).heap[w.heap.size]?=some (.cells #[x,y] T):=yh rfl
 exact⟨(h.cell (p:=⟨w.heap.size,0,none⟩) (by simp)).trans (zx (i:=0) hrow rfl),
  (h.cell (p:=⟨w.heap.size,1,none⟩) (by simp)).trans (zx (i:=1) hrow rfl)⟩
abbrev WEl:=Nat×Value×Value
def zhw (x:WEl):Array Value:= #[.int .i64 ((x.1:Nat):Int),.agg #[x.2.1,x.2.2]]
def zdc (w:World) (k:Kno) (x:WEl):Prop:=(∃a n c,x.2.1=.slice a n c∧Ivs w a n c (zb k x.1).1)∧∃a n c,x.2.2=.slice a n c∧Ents w a n c (zb k x.1).2
set_option maxRecDepth 20000 in
theorem zpp (n:Nat) (w0 w:World) (bk bt:Nat) (a:Option Addr) (m c t:Nat) (k:Kno) (hE:Frags w0 a m c k) (hG:∀f∈k,Good f.1∧f.1.length≤1000000) (hb0:Below w0.heap.size w0 w) (hm:m≤500)
 (hbk:w.heap[bk]?=some (.cells #[.slice a m c] 27)) (hbt:w.heap[bt]?=some (.cells #[.int .u64 t] 43)):
 zjg n Tryz.prog 251 #[.pointer (some ⟨bk,0,none⟩),.pointer (some ⟨bt,0,none⟩)] zhw
  (fun pre=>(∃rest,zq k t=pre.map (·.1)++rest)∧∀x∈pre,zdc w0 k x) (fun xs=>zq k t=xs.map (·.1)∧∀x∈xs,zdc w0 k x)
  (fun _=>False) (fun k=>k<w0.heap.size∨k=bk∨k=bt) w:=by
 intro l J Jx W hl hW hJ hJx hY h0;have H0:=hid (hb0.trans (hW.mono hb0.size));have hrk:=(hW.block bk (Array.getElem?_eq_some_iff.1 hbk).1).trans hbk;have hrt:=(hW.block bt (Array.getElem?_eq_some_iff.1 hbt).1).trans hbt;have Hrt:=hid hrt;have HE:=hid hE;have Hl:=hid hE.len;have HG:=hid hG;have HJ:=hid (fun s A B (h:J s A) (hb:Below A.heap.size A B)=>hJ s A B h ((Kept.refl _ A).below hb));have HY:=hid hY;have Hj0:=hid h0;clear hE hb0 hbk hbt hW hJ hJx hY h0 hl hG hrt;refine callsIn_of_wp Tryz.func251 rfl trivial ?_ rfl;simp only[Tryz.ntmps251,List.size_toArray,List.length_cons,List.length_nil,Nat.reduceAdd,Nat.reduceSub,Array.replicate_succ,Array.replicate_zero,List.push_toArray,List.append_toArray,List.nil_append,List.cons_append];have q1:=yz hrk;clear hrk
 gi_wp2
 clear q1
 gi_loopw [4,5,8] (fun _ _ i wr=>∃d:Nat,d≤m∧i=.int .i64 d∧Hid (Below w0.heap.size w0 wr∧wr.heap[bt]?=some (.cells #[.int .u64 t] 43)∧∃pre,J pre wr∧kx k t d=pre.map (·.1)∧∀x∈pre,zdc w0 k x)) (fun _ _ i _=>m - (intOf i).toNat)
 case atStart=>exact⟨0,by omega,rfl,H0.out,Hrt.out,[],Hj0.out,rfl,fun x hx=>by cases hx⟩
 case round=>
  obtain⟨d,hd,rfl,hinv⟩:=hrel;obtain⟨hb,hrt,pre,hj,hpre,hsl⟩:=hinv.out;by_cases hdm:d<m
  · have hdk:d<k.length:=by rw[Hl.out];exact hdm
    obtain⟨bb,oo,rfl⟩:=HE.out.some (by omega);obtain⟨x,n1,c1,y,n2,c2,hq⟩:=HE.out.fix hdm;obtain⟨q1,hI,q2,hV⟩:=hq wr hb;have Hsl0:=hid (show zdc w0 k (d,.slice x n1 c1,.slice y n2 c2) from⟨⟨_,_,_,rfl,(hq w0 (Below.refl _ _)).2.1⟩,_,_,_,rfl,(hq w0 (Below.refl _ _)).2.2.2⟩);have Hst:=hid (zht k t d)
    have Hmem:=hid (show mem (zb k d).1 t=true→∃rest,zq k t=kx k t d++[d]++rest from fun h=>by
     have h1:zq k t=kx k t k.length:=rfl
     have h2:∀e,kx k t (d+1+e)=kx k t (d+1)++((List.range e).map (d+1+·)).filter fun i=>mem (zb k i).1 t:=by
      intro e;unfold kx;rw[List.range_add,List.filter_append]
     obtain⟨e,he⟩:∃e,k.length=d+1+e:=⟨k.length - (d+1),by omega⟩;rw[h1,he,h2,zht,if_pos h];exact⟨_,rfl⟩)
    have hal:Below wr.heap.size wr (wr.alloc (.cells #[.slice x n1 c1,.slice y n2 c2] 97)):=(Below.refl _ _).alloc (Nat.le_refl _) _;have hg:=HG.out _ (yx hdk);have hC:=hid (zne x n1 c1 t (zb k d).1 _ (hI.below hal) hg.1 (by rw[←hI.len];exact hg.2));have Hal:=hid hal;have hz1:(wr.alloc (.cells #[.slice x n1 c1,.slice y n2 c2] 97)).cell? ⟨bt,0,none⟩=some (.int .u64 t):=yz (qg hrt);have Hb:=hid hb;have Hrt:=hid hrt;have Hj:=hid hj;have Hpre:=hid hpre;have Hsl:=hid hsl;have h0d:(0:Int)≤d:=by omega
    have h04:(d:Int)<(m:Int):=by omega
    clear hb hrt hj hpre hsl hq hI hV hinv hal hg;generalize mem (zb k d).1 t=b at*
    gi_wp2_with fail
    refine⟨fun h=>(by cases h),(callsIn_wide.2 hC.out).mono ?_⟩;rintro e w1 ⟨rfl,hb1⟩;have Hb1:=hid hb1;clear hb1 hz1 q1 q2;have Hw1:=hid (Hal.out.trans (Hb1.out.mono Hal.out.size));have Hb1w:=hid (Hb.out.trans (Hw1.out.mono Hb.out.size));have Hrt1:=hid ((Hw1.out.block _ (Array.getElem?_eq_some_iff.1 Hrt.out).1).trans Hrt.out);have Hj1:=hid (HJ.out _ _ _ Hj.out Hw1.out);obtain⟨f0,f1⟩:=zf2 wr (.slice x n1 c1) (.slice y n2 c2) 97 w1 Hb1.out
    cases b with
    | false=>
     rw[if_neg (by simp),List.append_nil] at Hst
     gi_wp2
     go_roundw
     case rel=>exact⟨d+1,by omega,by go_num,Hb1w.out,Hrt1.out,pre,Hj1.out,by rw[Hst.out];exact Hpre.out,Hsl.out⟩
     case measure=>simp[intOf];omega
    | true=>
     rw[if_pos rfl] at Hst;have hmm:=Hmem.out rfl;obtain⟨rest,hrest⟩:=hmm
     have hV:(∃rest,zq k t=(pre++[((d,.slice x n1 c1,.slice y n2 c2):WEl)]).map (·.1)++rest)∧∀x'∈pre++[((d,.slice x n1 c1,.slice y n2 c2):WEl)],zdc w0 k x':=by
      refine⟨⟨rest,by rw[hrest,Hpre.out,List.map_append];rfl⟩,fun x' hx'=>?_⟩;rcases List.mem_append.1 hx' with h | h
      · exact Hsl.out x' h
      · rw[List.mem_singleton] at h;rw[h];exact Hsl0.out
     have HV:=hid hV;obtain⟨fn,tmps,assign,body,hy,hR⟩:=HY.out pre (d,.slice x n1 c1,.slice y n2 c2) w1 hV Hj1.out;simp only[zhw] at hy;clear hV hrest
     gi_wp2
     first | refine hR.mono ?_ | refine⟨fun h=>(by cases h),hR.mono ?_⟩
     rintro e W3 (⟨rfl,hJ3,hk3⟩ | ⟨rfl,hJx3⟩)
     · have H3:=hid (show Below w0.heap.size w0 W3∧W3.heap[bt]?=some (.cells #[.int .u64 t] 43)∧∃pre,J pre W3∧kx k t (d+1)=pre.map (·.1)∧∀x∈pre,zdc w0 k x from
        ⟨Hb1w.out.trans (hk3.toBelow (fun k hk=>.inl hk) Hb1w.out.size),(hk3.row _ (Array.getElem?_eq_some_iff.1 Hrt1.out).1 (.inr (.inr rfl))).trans Hrt1.out,_,hJ3,by rw[Hst.out,Hpre.out,List.map_append];rfl,HV.out.2⟩)
       clear hJ3 hk3 hy hR f0 f1
       gi_wp2
       go_roundw
       case rel=>exact⟨d+1,by omega,by go_num,H3.out⟩
       case measure=>simp[intOf];omega
     · have HX:=hid (show ∃pre,((∃rest,zq k t=pre.map (·.1)++rest)∧∀x∈pre,zdc w0 k x)∧Jx pre W3 from⟨_,HV.out,hJx3⟩);clear hJx3 hy hR f0 f1
       gi_wp2
       go_wp2;refine bodyPost_ret (results_none rfl _ _ _) rfl ?_;exact⟨⟨_,rfl⟩,.inr HX.out⟩
  · obtain rfl:d=m:=by omega
    have HF:=hid (show ∃xs,(zq k t=xs.map (·.1)∧∀x∈xs,zdc w0 k x)∧J xs wr from⟨pre,⟨by rw[←hpre,←Hl.out];rfl,hsl⟩,hj⟩);clear hb hrt hj hpre hsl hinv
    gi_wp2
    refine bodyPost_end (results_none rfl _ _ _) rfl ?_;exact⟨⟨_,rfl⟩,.inl HF.out⟩
end
