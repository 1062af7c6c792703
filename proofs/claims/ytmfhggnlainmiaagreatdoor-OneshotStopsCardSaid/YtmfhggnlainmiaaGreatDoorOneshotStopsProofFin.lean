/-
  The statement OneshotStops: the walk of the law joined to its row. Conditions: none beyond the row's own.
-/
import Derived.Test.YtmfhggnlainmiaaGreatDoorCards
import Derived.Test.YtmfhggnlainmiaaGreatDoorTie
import Derived.SevenTiedAt
import Derived.ShutString
import Derived.ChangeOld
import Derived.Test.YtmfhggnlainmiaaGreatDoorPk22
import Derived.Test.YtmfhggnlainmiaaGreatDoorPk25
import Derived.Test.YtmfhggnlainmiaaGreatDoorPk69
import Derived.Test.YtmfhggnlainmiaaGreatDoorPk78
namespace Go.Proofs.YtmfhggnlainmiaaGreatDoor.oneshotStops
open Go.ChangeShapes Go.WideShapes Go.ChangeAt Go.RowKit
open Go.ChangeMaps (open_string shut_string)
set_option linter.unusedVariables false
theorem own:ownKnob Tryz.prog.godebug=none:=by kernel_rfl
theorem laidOut:laidOutB Tryz.prog=true:=by kernel_rfl
set_option maxRecDepth 100000 in
theorem lifted (os:Os) (started:os.Started) (H:Type) (enc:TypeId×Value→H):
 ReturnsInHanded {} Tryz.checked os 11 .any (fun w args=>(Rows.oneshotStopsSpec.pre enc Tryz.prog Tryz.f11 [] false w args∧laidMetH Tryz.prog Rows.oneshotStopsRow.laid w)∧sizedMet enc Tryz.prog Tryz.f11 (OpenSpec.ofChange Rows.oneshotStopsSpec) false w args) (Rows.oneshotStopsSpec.post enc Tryz.prog Tryz.f11 false true false false):=by
 refine zgm (C:=Tryz.checked) (X:=fun w _=>laidMetH Tryz.prog Rows.oneshotStopsRow.laid w) (fun _ _ _ hh h=>h.of_heap hh) own started (by kernel_rfl) Tryz.func11
  (ChangeSpec.witness_shaped (enc:=enc) (C:=Tryz.checked) (os:=os) (X:=fun w _=>laidMetH Tryz.prog Rows.oneshotStopsRow.laid w) false (zd9 os) #[.slice none 0 0,.agg #[.int .i64 0,.int .i64 0,.int .i64 0,.int .i64 0,.int .i64 0]] 8 (zgk os) (zgl os _) (by kernel_rfl) (by kernel_rfl) (by kernel_rfl) (zhy os _)) ?_
 intro W base args ds gs before hval0 hW _ _ hL hsh _;have hval:∀(j:Nat) t v,Tryz.f11.params[j]?=some t→args[j]?=some v→Value.okWide Tryz.prog W .any base t v:=hval0;have hW':=hW;obtain⟨p,q,hA0,hV,rfl,hfz,hnd⟩:=hW;have hA:DataW.TrodAll enc Tryz.prog W 0 (fun _=>true) true Tryz.f11.params.toList args.toList ds p:=hA0;rw[Tryz.params11] at hA hval;obtain⟨v0,vs0,d0,ds0,p0,q0,hargs,rfl,rfl,h0,r0⟩:=trodAll_cons hA;obtain⟨v1,vs1,d1,ds1,p1,q1,rfl,rfl,rfl,h1,r1⟩:=trodAll_cons r0;obtain⟨rfl,rfl,rfl⟩:=trodAll_nil r1;obtain rfl:args= #[v0,v1]:=by cases args;simp_all
 obtain⟨rfl,rfl⟩:=trodVars_none hV;have k0:=h0;have lt0:∀x∈p0,x.block<W.heap.size:=by obtain⟨m,hm⟩:=k0;exact DataW.trod_lt m _ _ _ hm
 obtain⟨a0,n0,cap0,rfl⟩:=okWide_slice Tryz.underlying26 (hval 0 26 v0 rfl rfl)
 obtain⟨ks0,w0⟩:∃k,KnS W a0 n0 cap0 k:=by
  obtain⟨fuel,hf⟩:=h0;obtain⟨a,n,c,k,e,hk⟩:=zqt hf;cases e;exact⟨k,hk⟩
 have k1:=h1;have lt1:∀x∈p1,x.block<W.heap.size:=by obtain⟨m,hm⟩:=k1;exact DataW.trod_lt m _ _ _ hm
 obtain⟨l1,rfl,li1⟩:∃l:zc,v1=lmV l∧LimsI l:=by
  obtain⟨fuel,hf⟩:=h1;exact zi5 (okWide_struct Tryz.underlying24 (hval 1 24 v1 rfl rfl)) hf
 have hD:=zhx hL;refine(yks _ _ _ _ _ W w0 li1 hD).mono fun e W' ⟨he,bel⟩=>?_
 subst he;exact⟨_,rfl,_,_,_,[],_,[],hW',trodAll_mk1 (shut_bool Tryz.underlying4 _),(trodAll_cons_mk (Below.trod laidOut (by kernel_rfl) (of_decide_eq_true (by kernel_rfl)) k0 bel lt0) (trodAll_cons_mk (Below.trod laidOut (by kernel_rfl) (of_decide_eq_true (by kernel_rfl)) k1 bel lt1) trodAll_mk0)),rfl,bel.frame _,fun h=>by cases h⟩
theorem both {a b:Bool} (ha:a=true) (hb:b=true):(a && b)=true:=by rw[ha,hb];rfl
set_option maxRecDepth 20000 in
set_option maxHeartbeats 4000000 in
theorem closed:joinedFacts Tryz.prog 11 Tryz.f11 Rows.oneshotStopsSpec Rows.oneshotStopsRow=true:=by
 unfold joinedFacts
 iterate 31 (refine both ?_ (by as_aux_lemma=>kernel_rfl))
 as_aux_lemma=>kernel_rfl
theorem over:Rows.oneshotStopsRow.holds Tryz.pinned (OpenSpec.ofChange Rows.oneshotStopsSpec):=
 OpenClaim.holds_of_wide 11 Tryz.f11 rfl rfl rfl rfl rfl rfl rfl ⟨rfl,rfl,rfl,rfl,rfl⟩ rfl rfl rfl rfl rfl (by as_aux_lemma=>kernel_rfl) Tryz.func11 closed
  (of_decide_eq_true (by as_aux_lemma=>kernel_rfl)) (by as_aux_lemma=>(unfold Func.isWrapper;first | (rw[if_pos (by decide +kernel)];kernel_rfl) | (rw[if_neg (by decide +kernel)];exact⟨rfl,rfl⟩)))
  (fun os started H enc _=>lifted os started H enc)
theorem proved:Rows.OneshotStopsSaid:=over
theorem card:Rows.OneshotStopsCardSaid:=
 Claim7.holds_tied_plain_at .later [] _ _ _ _ proved (fun _ h=>by cases h) (by as_aux_lemma=>kernel_rfl) (fun _ h=>by cases h) oneshotStops_row_tie rfl ⟨rfl,rfl⟩ (by as_aux_lemma=>kernel_rfl) rfl
  (fun f fn hf hfn=>by
    obtain rfl:f=11:=Option.some.inj ((show Tryz.prog.funcNamed "kenning/kenninglaw23.OneshotStops" =some 11 by kernel_rfl).symm.trans hf) |>.symm
    obtain rfl:fn=Tryz.f11:=(Option.some.inj (Tryz.func11.symm.trans hfn)).symm
    exact⟨by as_aux_lemma=>kernel_rfl,fun j t ht=>by
     rw[Tryz.params11] at ht;have hm:=Array.mem_of_getElem? ht;simp at hm;rcases hm with rfl | rfl
     · exact(show Tryz.prog.wantsStandIn 26=false by kernel_rfl)
     · exact(show Tryz.prog.wantsStandIn 24=false by kernel_rfl)⟩)
  (by as_aux_lemma=>kernel_rfl)
end Go.Proofs.YtmfhggnlainmiaaGreatDoor.oneshotStops
