/-
  The statement WireEncodes: the walk of the law joined to its row. Conditions: none beyond the row's own.
-/
import Derived.Test.YtdnjfnofjaoajaaGreatDoorCards
import Derived.Test.YtdnjfnofjaoajaaGreatDoorTie
import Derived.SevenTiedAt
import Derived.ShutString
import Derived.ChangeOld
import Derived.Test.YtdnjfnofjaoajaaGreatDoorWb49
namespace Go.Proofs.YtdnjfnofjaoajaaGreatDoor.wireEncodes
open Go.ChangeShapes Go.WideShapes Go.ChangeAt Go.RowKit
open Go.ChangeMaps (open_string shut_string)
set_option linter.unusedVariables false
theorem own:ownKnob Tryz.prog.godebug=none:=by kernel_rfl
theorem laidOut:laidOutB Tryz.prog=true:=by kernel_rfl
set_option maxRecDepth 100000 in
theorem lifted (os:Os) (started:os.Started) (H:Type) (enc:TypeId×Value→H):
 ReturnsInHanded {} Tryz.checked os 8 .any (fun w args=>(Rows.wireEncodesSpec.pre enc Tryz.prog Tryz.f8 [] false w args∧laidMetH Tryz.prog Rows.wireEncodesRow.laid w)∧sizedMet enc Tryz.prog Tryz.f8 (OpenSpec.ofChange Rows.wireEncodesSpec) false w args) (Rows.wireEncodesSpec.post enc Tryz.prog Tryz.f8 false true false false):=by
 refine zg6 (C:=Tryz.checked) (X:=fun w _=>laidMetH Tryz.prog Rows.wireEncodesRow.laid w) (fun _ _ _ hh h=>h.of_heap hh) own started (by kernel_rfl) Tryz.func8
  (ChangeSpec.witness_shaped (enc:=enc) (C:=Tryz.checked) (os:=os) (X:=fun w _=>laidMetH Tryz.prog Rows.wireEncodesRow.laid w) false (zdr os) #[.slice none 0 0] 8 (zg4 os) (zg5 os _) (by kernel_rfl) (by kernel_rfl) (by kernel_rfl) (zi6 os _)) ?_
 intro W base args ds gs before hval0 hW _ _ hL hsh _;have hval:∀(j:Nat) t v,Tryz.f8.params[j]?=some t→args[j]?=some v→Value.okWide Tryz.prog W .any base t v:=hval0;have hW':=hW;obtain⟨p,q,hA0,hV,rfl,hfz,hnd⟩:=hW;have hA:DataW.TrodAll enc Tryz.prog W 0 (fun _=>true) true Tryz.f8.params.toList args.toList ds p:=hA0;rw[Tryz.params8] at hA hval;obtain⟨v0,vs0,d0,ds0,p0,q0,hargs,rfl,rfl,h0,r0⟩:=trodAll_cons hA;obtain⟨rfl,rfl,rfl⟩:=trodAll_nil r0;obtain rfl:args= #[v0]:=by cases args;simp_all
 obtain⟨rfl,rfl⟩:=trodVars_none hV;have k0:=h0;have lt0:∀x∈p0,x.block<W.heap.size:=by obtain⟨m,hm⟩:=k0;exact DataW.trod_lt m _ _ _ hm
 obtain⟨a0,n0,cap0,rfl⟩:=okWide_slice Tryz.underlying25 (hval 0 25 v0 rfl rfl)
 obtain⟨kno0,w0⟩:∃k,Frags W a0 n0 cap0 k:=by
  obtain⟨fuel,hf⟩:=h0;obtain⟨a,n,c,k,e,hk⟩:=zg7 hf;cases e;exact⟨k,hk⟩
 have hD:=zi5 hL;refine(yba _ _ _ _ W w0 hD).mono fun e W' ⟨he,bel⟩=>?_
 subst he;exact⟨_,rfl,_,_,_,[],_,[],hW',trodAll_mk1 (shut_bool Tryz.underlying4 _),(trodAll_cons_mk (Below.trod laidOut (by kernel_rfl) (of_decide_eq_true (by kernel_rfl)) k0 bel lt0) trodAll_mk0),rfl,bel.frame _,fun h=>by cases h⟩
theorem both {a b:Bool} (ha:a=true) (hb:b=true):(a && b)=true:=by rw[ha,hb];rfl
set_option maxRecDepth 20000 in
set_option maxHeartbeats 4000000 in
theorem closed:joinedFacts Tryz.prog 8 Tryz.f8 Rows.wireEncodesSpec Rows.wireEncodesRow=true:=by
 unfold joinedFacts
 iterate 31 (refine both ?_ (by as_aux_lemma=>kernel_rfl))
 as_aux_lemma=>kernel_rfl
theorem over:Rows.wireEncodesRow.holds Tryz.pinned (OpenSpec.ofChange Rows.wireEncodesSpec):=
 OpenClaim.holds_of_wide 8 Tryz.f8 rfl rfl rfl rfl rfl rfl rfl ⟨rfl,rfl,rfl,rfl,rfl⟩ rfl rfl rfl rfl rfl (by as_aux_lemma=>kernel_rfl) Tryz.func8 closed
  (of_decide_eq_true (by as_aux_lemma=>kernel_rfl)) (by as_aux_lemma=>(unfold Func.isWrapper;first | (rw[if_pos (by decide +kernel)];kernel_rfl) | (rw[if_neg (by decide +kernel)];exact⟨rfl,rfl⟩)))
  (fun os started H enc _=>lifted os started H enc)
theorem proved:Rows.WireEncodesSaid:=over
theorem card:Rows.WireEncodesCardSaid:=
 Claim7.holds_tied_plain_at .later [] _ _ _ _ proved (fun _ h=>by cases h) (by as_aux_lemma=>kernel_rfl) (fun _ h=>by cases h) wireEncodes_row_tie rfl ⟨rfl,rfl⟩ (by as_aux_lemma=>kernel_rfl) rfl
  (fun f fn hf hfn=>by
    obtain rfl:f=8:=Option.some.inj ((show Tryz.prog.funcNamed "kenning/kenninglaw19.WireEncodes" =some 8 by kernel_rfl).symm.trans hf) |>.symm
    obtain rfl:fn=Tryz.f8:=(Option.some.inj (Tryz.func8.symm.trans hfn)).symm
    exact⟨by as_aux_lemma=>kernel_rfl,fun j t ht=>by
     rw[Tryz.params8] at ht;have hm:=Array.mem_of_getElem? ht;simp at hm;rcases hm with rfl
     · exact(show Tryz.prog.wantsStandIn 25=false by kernel_rfl)⟩)
  (by as_aux_lemma=>kernel_rfl)
end Go.Proofs.YtdnjfnofjaoajaaGreatDoor.wireEncodes
