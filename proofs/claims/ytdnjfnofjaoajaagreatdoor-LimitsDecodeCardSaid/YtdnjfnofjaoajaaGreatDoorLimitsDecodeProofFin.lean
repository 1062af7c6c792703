/-
  The statement LimitsDecode: the walk of the law joined to its row. Conditions: none beyond the row's own.
-/
import Derived.Test.YtdnjfnofjaoajaaGreatDoorCards
import Derived.Test.YtdnjfnofjaoajaaGreatDoorTie
import Derived.SevenTiedAt
import Derived.ShutString
import Derived.ChangeOld
import Derived.Test.YtdnjfnofjaoajaaGreatDoorWb56
namespace Go.Proofs.YtdnjfnofjaoajaaGreatDoor.limitsDecode
open Go.ChangeShapes Go.WideShapes Go.ChangeAt Go.RowKit
open Go.ChangeMaps (open_string shut_string)
set_option linter.unusedVariables false
theorem own:ownKnob Tryz.prog.godebug=none:=by kernel_rfl
theorem laidOut:laidOutB Tryz.prog=true:=by kernel_rfl
set_option maxRecDepth 100000 in
theorem lifted (os:Os) (started:os.Started) (H:Type) (enc:TypeId×Value→H):
 ReturnsInHanded {} Tryz.checked os 10 .any (fun w args=>(Rows.limitsDecodeSpec.pre enc Tryz.prog Tryz.f10 [] false w args∧laidMetH Tryz.prog Rows.limitsDecodeRow.laid w)∧sizedMet enc Tryz.prog Tryz.f10 (OpenSpec.ofChange Rows.limitsDecodeSpec) false w args) (Rows.limitsDecodeSpec.post enc Tryz.prog Tryz.f10 false true false false):=by
 refine zg6 (C:=Tryz.checked) (X:=fun w _=>laidMetH Tryz.prog Rows.limitsDecodeRow.laid w) (fun _ _ _ hh h=>h.of_heap hh) own started (by kernel_rfl) Tryz.func10
  (ChangeSpec.witness_shaped (enc:=enc) (C:=Tryz.checked) (os:=os) (X:=fun w _=>laidMetH Tryz.prog Rows.limitsDecodeRow.laid w) false (zdr os) #[.slice none 0 0,.agg #[.int .i64 0,.int .i64 0,.int .i64 0,.int .i64 0,.int .i64 0]] 8 (zg4 os) (zg5 os _) (by kernel_rfl) (by kernel_rfl) (by kernel_rfl) (zi6 os _)) ?_
 intro W base args ds gs before hval0 hW _ _ hL hsh _;have hval:∀(j:Nat) t v,Tryz.f10.params[j]?=some t→args[j]?=some v→Value.okWide Tryz.prog W .any base t v:=hval0;have hW':=hW;obtain⟨p,q,hA0,hV,rfl,hfz,hnd⟩:=hW;have hA:DataW.TrodAll enc Tryz.prog W 0 (fun _=>true) true Tryz.f10.params.toList args.toList ds p:=hA0;rw[Tryz.params10] at hA hval;obtain⟨v0,vs0,d0,ds0,p0,q0,hargs,rfl,rfl,h0,r0⟩:=trodAll_cons hA;obtain⟨v1,vs1,d1,ds1,p1,q1,rfl,rfl,rfl,h1,r1⟩:=trodAll_cons r0;obtain⟨rfl,rfl,rfl⟩:=trodAll_nil r1;obtain rfl:args= #[v0,v1]:=by cases args;simp_all
 obtain⟨rfl,rfl⟩:=trodVars_none hV;have k0:=h0;have lt0:∀x∈p0,x.block<W.heap.size:=by obtain⟨m,hm⟩:=k0;exact DataW.trod_lt m _ _ _ hm
 obtain⟨a0,n0,cap0,rfl⟩:=okWide_slice Tryz.underlying25 (hval 0 25 v0 rfl rfl)
 obtain⟨kno0,w0⟩:∃k,Frags W a0 n0 cap0 k:=by
  obtain⟨fuel,hf⟩:=h0;obtain⟨a,n,c,k,e,hk⟩:=zg7 hf;cases e;exact⟨k,hk⟩
 have k1:=h1;have lt1:∀x∈p1,x.block<W.heap.size:=by obtain⟨m,hm⟩:=k1;exact DataW.trod_lt m _ _ _ hm
 obtain⟨l1,rfl,li1⟩:∃l:zt,v1=lmV l∧LimsI l:=by
  obtain⟨fuel,hf⟩:=h1;exact yco (okWide_struct Tryz.underlying42 (hval 1 42 v1 rfl rfl)) hf
 have hD:=zi5 hL;refine(ycq _ _ _ _ _ W w0 li1 hD).mono fun e W' ⟨he,bel⟩=>?_
 subst he;exact⟨_,rfl,_,_,_,[],_,[],hW',trodAll_mk1 (shut_bool Tryz.underlying4 _),(trodAll_cons_mk (Below.trod laidOut (by kernel_rfl) (of_decide_eq_true (by kernel_rfl)) k0 bel lt0) (trodAll_cons_mk (Below.trod laidOut (by kernel_rfl) (of_decide_eq_true (by kernel_rfl)) k1 bel lt1) trodAll_mk0)),rfl,bel.frame _,fun h=>by cases h⟩
theorem both {a b:Bool} (ha:a=true) (hb:b=true):(a && b)=true:=by rw[ha,hb];rfl
theorem j0:Rows.limitsDecodeRow.wf (OpenSpec.ofChange Rows.limitsDecodeSpec)=true:=by kernel_rfl
theorem j1:laidOutB Tryz.prog=true:=by kernel_rfl
theorem j2:mapsRowed Tryz.prog=true:=by kernel_rfl
theorem j3:Tryz.f10.params.all (Tryz.prog.readableRec ·)=true:=by kernel_rfl
theorem j4:namedTie Tryz.prog Rows.limitsDecodeRow.named Rows.limitsDecodeSpec.vars=true:=by kernel_rfl
theorem j5:(Rows.limitsDecodeRow.stops == [])=true:=by kernel_rfl
theorem j6:(Tryz.prog.stops == [])=true:=by kernel_rfl
theorem j7:(Rows.limitsDecodeRow.knobs == [])=true:=by kernel_rfl
theorem j8:(Tryz.prog.stopKnobs == [])=true:=by kernel_rfl
theorem j9:(Rows.limitsDecodeRow.inPlace == Tryz.prog.inPlace 10)=true:=by kernel_rfl
theorem j10:(Rows.limitsDecodeRow.unfollowed == Tryz.prog.unfollowed 10)=true:=by kernel_rfl
theorem j11:(Rows.limitsDecodeRow.recurses == Tryz.prog.recurses 10)=true:=by kernel_rfl
theorem j12:(Rows.limitsDecodeRow.named == Tryz.prog.varsNamed 10)=true:=by kernel_rfl
theorem j13:(Rows.limitsDecodeRow.maps == (Tryz.f10.params.toList++Rows.limitsDecodeSpec.plain.varTypes Tryz.prog).any (Tryz.prog.mapsRec ·))=true:=by kernel_rfl
theorem j14:(Rows.limitsDecodeRow.ifaces == (Tryz.f10.params.toList++Rows.limitsDecodeSpec.plain.varTypes Tryz.prog).any (Tryz.prog.ifacesRec ·))=true:=by kernel_rfl
theorem j15:(Rows.limitsDecodeRow.mapsOut == Tryz.prog.mapsAmong Tryz.f10.resultTypes.toList)=true:=by kernel_rfl
theorem j16:(Rows.limitsDecodeRow.loops == (Tryz.f10.params.toList++Rows.limitsDecodeSpec.plain.varTypes Tryz.prog).any (Tryz.prog.loopsFrom ·))=true:=by kernel_rfl
theorem j17:(Rows.limitsDecodeRow.wideKeys == (Tryz.f10.params.toList++Rows.limitsDecodeSpec.plain.varTypes Tryz.prog++Tryz.f10.resultTypes.toList).any (Tryz.prog.wideKeysFrom ·))=true:=by kernel_rfl
theorem j18:Rows.limitsDecodeSpec.vars.all (Tryz.prog.varReadable ·)=true:=by kernel_rfl
theorem j19:Tryz.f10.resultTypes.all (fun t=>Tryz.prog.readableRec t && decide (t<Tryz.prog.types.size))=true:=by kernel_rfl
theorem j20:(Rows.limitsDecodeRow.ifacesOut == Tryz.f10.resultTypes.toList.any (Tryz.prog.ifacesRec ·))=true:=by kernel_rfl
theorem j21:(Rows.limitsDecodeRow.loopsOut == Tryz.f10.resultTypes.toList.any (Tryz.prog.loopsFrom ·))=true:=by kernel_rfl
theorem j22:(Rows.limitsDecodeRow.plainKeys == Tryz.prog.plainKeys)=true:=by kernel_rfl
theorem j23:Rows.limitsDecodeRow.shortTexts.isNone=true:=by kernel_rfl
theorem j24:Tryz.prog.stopsHeard=true:=by kernel_rfl
theorem j25:Tryz.prog.mayEnter=true:=by kernel_rfl
theorem j26:(Rows.limitsDecodeRow.lifted == Tryz.prog.liftsFinal)=true:=by kernel_rfl
theorem j27:(Tryz.prog.make == some Rows.limitsDecodeRow.make)=true:=by kernel_rfl
theorem j28:(Rows.limitsDecodeRow.kinds == (if Rows.limitsDecodeRow.domain.isEmpty then [] else Tryz.f10.params.toList.map fun t=>match Tryz.prog.underlying t with | some (.int k)=>some k | _=>none))=true:=by kernel_rfl
theorem j29:(Rows.limitsDecodeRow.pinned == Rows.limitsDecodeRow.pinnedBy)=true:=by kernel_rfl
theorem j30:(Rows.limitsDecodeRow.veiled == (Tryz.f10.params.toList++Rows.limitsDecodeSpec.plain.varTypes Tryz.prog++Tryz.f10.resultTypes.toList).any (Tryz.prog.veiledRec ·))=true:=by kernel_rfl
theorem j31:Rows.limitsDecodeRow.veiledFits Tryz.prog Tryz.f10.params.toList (Tryz.f10.params.toList++Rows.limitsDecodeSpec.plain.varTypes Tryz.prog++Tryz.f10.resultTypes.toList)=true:=by kernel_rfl
set_option maxRecDepth 20000 in
theorem closed:joinedFacts Tryz.prog 10 Tryz.f10 Rows.limitsDecodeSpec Rows.limitsDecodeRow=true:=
 (both (both (both (both (both (both (both (both (both (both (both (both (both (both (both (both (both (both (both (both (both (both (both (both (both (both (both (both (both (both (both j0 j1) j2) j3) j4) j5) j6) j7) j8) j9) j10) j11) j12) j13) j14) j15) j16) j17) j18) j19) j20) j21) j22) j23) j24) j25) j26) j27) j28) j29) j30) j31)
theorem over:Rows.limitsDecodeRow.holds Tryz.pinned (OpenSpec.ofChange Rows.limitsDecodeSpec):=
 OpenClaim.holds_of_wide 10 Tryz.f10 rfl rfl rfl rfl rfl rfl rfl ⟨rfl,rfl,rfl,rfl,rfl⟩ rfl rfl rfl rfl rfl (by as_aux_lemma=>kernel_rfl) Tryz.func10 closed
  (of_decide_eq_true (by as_aux_lemma=>kernel_rfl)) (by as_aux_lemma=>(unfold Func.isWrapper;first | (rw[if_pos (by decide +kernel)];kernel_rfl) | (rw[if_neg (by decide +kernel)];exact⟨rfl,rfl⟩)))
  (fun os started H enc _=>lifted os started H enc)
theorem proved:Rows.LimitsDecodeSaid:=over
theorem card:Rows.LimitsDecodeCardSaid:=
 Claim7.holds_tied_plain_at .later [] _ _ _ _ proved (fun _ h=>by cases h) (by as_aux_lemma=>kernel_rfl) (fun _ h=>by cases h) limitsDecode_row_tie rfl ⟨rfl,rfl⟩ (by as_aux_lemma=>kernel_rfl) rfl
  (fun f fn hf hfn=>by
    obtain rfl:f=10:=Option.some.inj ((show Tryz.prog.funcNamed "kenning/kenninglaw22.LimitsDecode" =some 10 by kernel_rfl).symm.trans hf) |>.symm
    obtain rfl:fn=Tryz.f10:=(Option.some.inj (Tryz.func10.symm.trans hfn)).symm
    exact⟨by as_aux_lemma=>kernel_rfl,fun j t ht=>by
     rw[Tryz.params10] at ht;have hm:=Array.mem_of_getElem? ht;simp at hm;rcases hm with rfl | rfl
     · exact(show Tryz.prog.wantsStandIn 25=false by kernel_rfl)
     · exact(show Tryz.prog.wantsStandIn 42=false by kernel_rfl)⟩)
  (by as_aux_lemma=>kernel_rfl)
end Go.Proofs.YtdnjfnofjaoajaaGreatDoor.limitsDecode
