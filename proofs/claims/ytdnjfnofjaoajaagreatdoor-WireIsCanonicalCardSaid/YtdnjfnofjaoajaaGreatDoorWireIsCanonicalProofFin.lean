/-
  The statement WireIsCanonical: the walk of the law joined to its row. Conditions: none beyond the row's own.
-/
import Derived.Test.YtdnjfnofjaoajaaGreatDoorCards
import Derived.Test.YtdnjfnofjaoajaaGreatDoorTie
import Derived.SevenTiedAt
import Derived.ShutString
import Derived.ChangeOld
import Derived.Test.YtdnjfnofjaoajaaGreatDoorWb52
namespace Go.Proofs.YtdnjfnofjaoajaaGreatDoor.wireIsCanonical
open Go.ChangeShapes Go.WideShapes Go.ChangeAt Go.RowKit
open Go.ChangeMaps (open_string shut_string)
set_option linter.unusedVariables false
theorem own:ownKnob Tryz.prog.godebug=none:=by kernel_rfl
theorem laidOut:laidOutB Tryz.prog=true:=by kernel_rfl
set_option maxRecDepth 100000 in
theorem lifted (os:Os) (started:os.Started) (H:Type) (enc:TypeId×Value→H):
 ReturnsInHanded {} Tryz.checked os 9 .any (fun w args=>(Rows.wireIsCanonicalSpec.pre enc Tryz.prog Tryz.f9 [] false w args∧laidMetH Tryz.prog Rows.wireIsCanonicalRow.laid w)∧sizedMet enc Tryz.prog Tryz.f9 (OpenSpec.ofChange Rows.wireIsCanonicalSpec) false w args) (Rows.wireIsCanonicalSpec.post enc Tryz.prog Tryz.f9 false true false false):=by
 refine zg6 (C:=Tryz.checked) (X:=fun w _=>laidMetH Tryz.prog Rows.wireIsCanonicalRow.laid w) (fun _ _ _ hh h=>h.of_heap hh) own started (by kernel_rfl) Tryz.func9
  (ChangeSpec.witness_shaped (enc:=enc) (C:=Tryz.checked) (os:=os) (X:=fun w _=>laidMetH Tryz.prog Rows.wireIsCanonicalRow.laid w) false (zdr os) #[.slice none 0 0] 8 (zg4 os) (zg5 os _) (by kernel_rfl) (by kernel_rfl) (by kernel_rfl) (z6g os _)) ?_
 intro W base args ds gs before hval0 hW _ _ hL hsh _;have hval:∀(j:Nat) t v,Tryz.f9.params[j]?=some t→args[j]?=some v→Value.okWide Tryz.prog W .any base t v:=hval0;have hW':=hW;obtain⟨p,q,hA0,hV,rfl,hfz,hnd⟩:=hW;have hA:DataW.TrodAll enc Tryz.prog W 0 (fun _=>true) true Tryz.f9.params.toList args.toList ds p:=hA0;rw[Tryz.params9] at hA hval;obtain⟨v0,vs0,d0,ds0,p0,q0,hargs,rfl,rfl,h0,r0⟩:=trodAll_cons hA;obtain⟨rfl,rfl,rfl⟩:=trodAll_nil r0;obtain rfl:args= #[v0]:=by cases args;simp_all
 obtain⟨rfl,rfl⟩:=trodVars_none hV;have k0:=h0;have lt0:∀x∈p0,x.block<W.heap.size:=by obtain⟨m,hm⟩:=k0;exact DataW.trod_lt m _ _ _ hm
 obtain⟨a0,n0,cap0,rfl⟩:=okWide_slice Tryz.underlying27 (hval 0 27 v0 rfl rfl)
 obtain⟨l0,w0⟩:∃l,Byts W a0 n0 cap0 l:=by
  obtain⟨fuel,hf⟩:=h0;exact zx2 hf
 have hR:=z6f hL hsh;refine(yb3 _ _ _ _ W w0 hR.door hR.codes).mono fun e W' ⟨he,bel⟩=>?_
 subst he;exact⟨_,rfl,_,_,_,[],_,[],hW',trodAll_mk1 (shut_bool Tryz.underlying4 _),(trodAll_cons_mk (Below.trod laidOut (by kernel_rfl) (of_decide_eq_true (by kernel_rfl)) k0 bel lt0) trodAll_mk0),rfl,bel.frame _,fun h=>by cases h⟩
theorem both {a b:Bool} (ha:a=true) (hb:b=true):(a && b)=true:=by rw[ha,hb];rfl
theorem j0:Rows.wireIsCanonicalRow.wf (OpenSpec.ofChange Rows.wireIsCanonicalSpec)=true:=by kernel_rfl
theorem j1:laidOutB Tryz.prog=true:=by kernel_rfl
theorem j2:mapsRowed Tryz.prog=true:=by kernel_rfl
theorem j3:Tryz.f9.params.all (Tryz.prog.readableRec ·)=true:=by kernel_rfl
theorem j4:namedTie Tryz.prog Rows.wireIsCanonicalRow.named Rows.wireIsCanonicalSpec.vars=true:=by kernel_rfl
theorem j5:(Rows.wireIsCanonicalRow.stops == [])=true:=by kernel_rfl
theorem j6:(Tryz.prog.stops == [])=true:=by kernel_rfl
theorem j7:(Rows.wireIsCanonicalRow.knobs == [])=true:=by kernel_rfl
theorem j8:(Tryz.prog.stopKnobs == [])=true:=by kernel_rfl
theorem j9:(Rows.wireIsCanonicalRow.inPlace == Tryz.prog.inPlace 9)=true:=by kernel_rfl
theorem j10:(Rows.wireIsCanonicalRow.unfollowed == Tryz.prog.unfollowed 9)=true:=by kernel_rfl
theorem j11:(Rows.wireIsCanonicalRow.recurses == Tryz.prog.recurses 9)=true:=by kernel_rfl
theorem j12:(Rows.wireIsCanonicalRow.named == Tryz.prog.varsNamed 9)=true:=by kernel_rfl
theorem j13:(Rows.wireIsCanonicalRow.maps == (Tryz.f9.params.toList++Rows.wireIsCanonicalSpec.plain.varTypes Tryz.prog).any (Tryz.prog.mapsRec ·))=true:=by kernel_rfl
theorem j14:(Rows.wireIsCanonicalRow.ifaces == (Tryz.f9.params.toList++Rows.wireIsCanonicalSpec.plain.varTypes Tryz.prog).any (Tryz.prog.ifacesRec ·))=true:=by kernel_rfl
theorem j15:(Rows.wireIsCanonicalRow.mapsOut == Tryz.prog.mapsAmong Tryz.f9.resultTypes.toList)=true:=by kernel_rfl
theorem j16:(Rows.wireIsCanonicalRow.loops == (Tryz.f9.params.toList++Rows.wireIsCanonicalSpec.plain.varTypes Tryz.prog).any (Tryz.prog.loopsFrom ·))=true:=by kernel_rfl
theorem j17:(Rows.wireIsCanonicalRow.wideKeys == (Tryz.f9.params.toList++Rows.wireIsCanonicalSpec.plain.varTypes Tryz.prog++Tryz.f9.resultTypes.toList).any (Tryz.prog.wideKeysFrom ·))=true:=by kernel_rfl
theorem j18:Rows.wireIsCanonicalSpec.vars.all (Tryz.prog.varReadable ·)=true:=by kernel_rfl
theorem j19:Tryz.f9.resultTypes.all (fun t=>Tryz.prog.readableRec t && decide (t<Tryz.prog.types.size))=true:=by kernel_rfl
theorem j20:(Rows.wireIsCanonicalRow.ifacesOut == Tryz.f9.resultTypes.toList.any (Tryz.prog.ifacesRec ·))=true:=by kernel_rfl
theorem j21:(Rows.wireIsCanonicalRow.loopsOut == Tryz.f9.resultTypes.toList.any (Tryz.prog.loopsFrom ·))=true:=by kernel_rfl
theorem j22:(Rows.wireIsCanonicalRow.plainKeys == Tryz.prog.plainKeys)=true:=by kernel_rfl
theorem j23:Rows.wireIsCanonicalRow.shortTexts.isNone=true:=by kernel_rfl
theorem j24:Tryz.prog.stopsHeard=true:=by kernel_rfl
theorem j25:Tryz.prog.mayEnter=true:=by kernel_rfl
theorem j26:(Rows.wireIsCanonicalRow.lifted == Tryz.prog.liftsFinal)=true:=by kernel_rfl
theorem j27:(Tryz.prog.make == some Rows.wireIsCanonicalRow.make)=true:=by kernel_rfl
theorem j28:(Rows.wireIsCanonicalRow.kinds == (if Rows.wireIsCanonicalRow.domain.isEmpty then [] else Tryz.f9.params.toList.map fun t=>match Tryz.prog.underlying t with | some (.int k)=>some k | _=>none))=true:=by kernel_rfl
theorem j29:(Rows.wireIsCanonicalRow.pinned == Rows.wireIsCanonicalRow.pinnedBy)=true:=by kernel_rfl
theorem j30:(Rows.wireIsCanonicalRow.veiled == (Tryz.f9.params.toList++Rows.wireIsCanonicalSpec.plain.varTypes Tryz.prog++Tryz.f9.resultTypes.toList).any (Tryz.prog.veiledRec ·))=true:=by kernel_rfl
theorem j31:Rows.wireIsCanonicalRow.veiledFits Tryz.prog Tryz.f9.params.toList (Tryz.f9.params.toList++Rows.wireIsCanonicalSpec.plain.varTypes Tryz.prog++Tryz.f9.resultTypes.toList)=true:=by kernel_rfl
set_option maxRecDepth 20000 in
theorem closed:joinedFacts Tryz.prog 9 Tryz.f9 Rows.wireIsCanonicalSpec Rows.wireIsCanonicalRow=true:=
 (both (both (both (both (both (both (both (both (both (both (both (both (both (both (both (both (both (both (both (both (both (both (both (both (both (both (both (both (both (both (both j0 j1) j2) j3) j4) j5) j6) j7) j8) j9) j10) j11) j12) j13) j14) j15) j16) j17) j18) j19) j20) j21) j22) j23) j24) j25) j26) j27) j28) j29) j30) j31)
theorem over:Rows.wireIsCanonicalRow.holds Tryz.pinned (OpenSpec.ofChange Rows.wireIsCanonicalSpec):=
 OpenClaim.holds_of_wide 9 Tryz.f9 rfl rfl rfl rfl rfl rfl rfl ⟨rfl,rfl,rfl,rfl,rfl⟩ rfl rfl rfl rfl rfl (by as_aux_lemma=>kernel_rfl) Tryz.func9 closed
  (of_decide_eq_true (by as_aux_lemma=>kernel_rfl)) (by as_aux_lemma=>(unfold Func.isWrapper;first | (rw[if_pos (by decide +kernel)];kernel_rfl) | (rw[if_neg (by decide +kernel)];exact⟨rfl,rfl⟩)))
  (fun os started H enc _=>lifted os started H enc)
theorem proved:Rows.WireIsCanonicalSaid:=over
theorem card:Rows.WireIsCanonicalCardSaid:=
 Claim7.holds_tied_plain_at .later [] _ _ _ _ proved (fun _ h=>by cases h) (by as_aux_lemma=>kernel_rfl) (fun _ h=>by cases h) wireIsCanonical_row_tie rfl ⟨rfl,rfl⟩ (by as_aux_lemma=>kernel_rfl) rfl
  (fun f fn hf hfn=>by
    obtain rfl:f=9:=Option.some.inj ((show Tryz.prog.funcNamed "kenning/kenninglaw19.WireIsCanonical" =some 9 by kernel_rfl).symm.trans hf) |>.symm
    obtain rfl:fn=Tryz.f9:=(Option.some.inj (Tryz.func9.symm.trans hfn)).symm
    exact⟨by as_aux_lemma=>kernel_rfl,fun j t ht=>by
     rw[Tryz.params9] at ht;have hm:=Array.mem_of_getElem? ht;simp at hm;rcases hm with rfl
     · exact(show Tryz.prog.wantsStandIn 27=false by kernel_rfl)⟩)
  (by as_aux_lemma=>kernel_rfl)
end Go.Proofs.YtdnjfnofjaoajaaGreatDoor.wireIsCanonical
