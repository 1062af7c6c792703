/-
  The statement WireCuts: the walk of the law joined to its row. Conditions: none beyond the row's own.
-/
import Derived.Test.YtdnjfnofjaoajaaGreatDoorCards
import Derived.Test.YtdnjfnofjaoajaaGreatDoorTie
import Derived.SevenTiedAt
import Derived.ShutString
import Derived.ChangeOld
import Derived.Test.YtdnjfnofjaoajaaGreatDoorWb48
namespace Go.Proofs.YtdnjfnofjaoajaaGreatDoor.wireCuts
open Go.ChangeShapes Go.WideShapes Go.ChangeAt Go.RowKit
open Go.ChangeMaps (open_string shut_string)
set_option linter.unusedVariables false
theorem own:ownKnob Tryz.prog.godebug=none:=by kernel_rfl
theorem laidOut:laidOutB Tryz.prog=true:=by kernel_rfl
set_option maxRecDepth 100000 in
theorem lifted (os:Os) (started:os.Started) (H:Type) (enc:TypeId×Value→H):
 ReturnsInHanded {} Tryz.checked os 6 .any (fun w args=>(Rows.wireCutsSpec.pre enc Tryz.prog Tryz.f6 [] false w args∧laidMetH Tryz.prog Rows.wireCutsRow.laid w)∧sizedMet enc Tryz.prog Tryz.f6 (OpenSpec.ofChange Rows.wireCutsSpec) false w args) (Rows.wireCutsSpec.post enc Tryz.prog Tryz.f6 false true false false):=by
 refine zg6 (C:=Tryz.checked) (X:=fun w _=>laidMetH Tryz.prog Rows.wireCutsRow.laid w) (fun _ _ _ hh h=>h.of_heap hh) own started (by kernel_rfl) Tryz.func6
  (ChangeSpec.witness_shaped (enc:=enc) (C:=Tryz.checked) (os:=os) (X:=fun w _=>laidMetH Tryz.prog Rows.wireCutsRow.laid w) false (zdr os) #[.slice none 0 0,.int .u16 0,.slice none 0 0] 8 (zg4 os) (zg5 os _) (by kernel_rfl) (by kernel_rfl) (by kernel_rfl) (zi6 os _)) ?_
 intro W base args ds gs before hval0 hW _ _ hL hsh _;have hval:∀(j:Nat) t v,Tryz.f6.params[j]?=some t→args[j]?=some v→Value.okWide Tryz.prog W .any base t v:=hval0;have hW':=hW;obtain⟨p,q,hA0,hV,rfl,hfz,hnd⟩:=hW;have hA:DataW.TrodAll enc Tryz.prog W 0 (fun _=>true) true Tryz.f6.params.toList args.toList ds p:=hA0;rw[Tryz.params6] at hA hval;obtain⟨v0,vs0,d0,ds0,p0,q0,hargs,rfl,rfl,h0,r0⟩:=trodAll_cons hA;obtain⟨v1,vs1,d1,ds1,p1,q1,rfl,rfl,rfl,h1,r1⟩:=trodAll_cons r0;obtain⟨v2,vs2,d2,ds2,p2,q2,rfl,rfl,rfl,h2,r2⟩:=trodAll_cons r1;obtain⟨rfl,rfl,rfl⟩:=trodAll_nil r2;obtain rfl:args= #[v0,v1,v2]:=by cases args;simp_all
 obtain⟨rfl,rfl⟩:=trodVars_none hV;have k0:=h0;have lt0:∀x∈p0,x.block<W.heap.size:=by obtain⟨m,hm⟩:=k0;exact DataW.trod_lt m _ _ _ hm
 obtain⟨a0,n0,cap0,rfl⟩:=okWide_slice Tryz.underlying25 (hval 0 25 v0 rfl rfl)
 obtain⟨kno0,w0⟩:∃k,Frags W a0 n0 cap0 k:=by
  obtain⟨fuel,hf⟩:=h0;obtain⟨a,n,c,k,e,hk⟩:=zg7 hf;cases e;exact⟨k,hk⟩
 have k1:=h1;have lt1:∀x∈p1,x.block<W.heap.size:=by obtain⟨m,hm⟩:=k1;exact DataW.trod_lt m _ _ _ hm
 obtain⟨z1,rfl,rfl,rfl,wf1⟩:=open_int Tryz.underlying61 (hval 1 61 v1 rfl rfl) h1;obtain⟨x1,rfl,b1⟩:=yaf wf1;have k2:=h2;have lt2:∀x∈p2,x.block<W.heap.size:=by obtain⟨m,hm⟩:=k2;exact DataW.trod_lt m _ _ _ hm
 obtain⟨a2,n2,cap2,rfl⟩:=okWide_slice Tryz.underlying27 (hval 2 27 v2 rfl rfl)
 obtain⟨l2,w2⟩:∃l,Byts W a2 n2 cap2 l:=by
  obtain⟨fuel,hf⟩:=h2;exact zx2 hf
 have hD:=zi5 hL;refine(yaw _ _ _ _ _ _ _ _ _ W w0 b1 w2 hD).mono fun e W' ⟨he,bel⟩=>?_
 subst he;exact⟨_,rfl,_,_,_,[],_,[],hW',trodAll_mk1 (shut_bool Tryz.underlying4 _),(trodAll_cons_mk (Below.trod laidOut (by kernel_rfl) (of_decide_eq_true (by kernel_rfl)) k0 bel lt0) (trodAll_cons_mk (Below.trod laidOut (by kernel_rfl) (of_decide_eq_true (by kernel_rfl)) k1 bel lt1) (trodAll_cons_mk (Below.trod laidOut (by kernel_rfl) (of_decide_eq_true (by kernel_rfl)) k2 bel lt2) trodAll_mk0))),rfl,bel.frame _,fun h=>by cases h⟩
theorem both {a b:Bool} (ha:a=true) (hb:b=true):(a && b)=true:=by rw[ha,hb];rfl
theorem j0:Rows.wireCutsRow.wf (OpenSpec.ofChange Rows.wireCutsSpec)=true:=by kernel_rfl
theorem j1:laidOutB Tryz.prog=true:=by kernel_rfl
theorem j2:mapsRowed Tryz.prog=true:=by kernel_rfl
theorem j3:Tryz.f6.params.all (Tryz.prog.readableRec ·)=true:=by kernel_rfl
theorem j4:namedTie Tryz.prog Rows.wireCutsRow.named Rows.wireCutsSpec.vars=true:=by kernel_rfl
theorem j5:(Rows.wireCutsRow.stops == [])=true:=by kernel_rfl
theorem j6:(Tryz.prog.stops == [])=true:=by kernel_rfl
theorem j7:(Rows.wireCutsRow.knobs == [])=true:=by kernel_rfl
theorem j8:(Tryz.prog.stopKnobs == [])=true:=by kernel_rfl
theorem j9:(Rows.wireCutsRow.inPlace == Tryz.prog.inPlace 6)=true:=by kernel_rfl
theorem j10:(Rows.wireCutsRow.unfollowed == Tryz.prog.unfollowed 6)=true:=by kernel_rfl
theorem j11:(Rows.wireCutsRow.recurses == Tryz.prog.recurses 6)=true:=by kernel_rfl
theorem j12:(Rows.wireCutsRow.named == Tryz.prog.varsNamed 6)=true:=by kernel_rfl
theorem j13:(Rows.wireCutsRow.maps == (Tryz.f6.params.toList++Rows.wireCutsSpec.plain.varTypes Tryz.prog).any (Tryz.prog.mapsRec ·))=true:=by kernel_rfl
theorem j14:(Rows.wireCutsRow.ifaces == (Tryz.f6.params.toList++Rows.wireCutsSpec.plain.varTypes Tryz.prog).any (Tryz.prog.ifacesRec ·))=true:=by kernel_rfl
theorem j15:(Rows.wireCutsRow.mapsOut == Tryz.prog.mapsAmong Tryz.f6.resultTypes.toList)=true:=by kernel_rfl
theorem j16:(Rows.wireCutsRow.loops == (Tryz.f6.params.toList++Rows.wireCutsSpec.plain.varTypes Tryz.prog).any (Tryz.prog.loopsFrom ·))=true:=by kernel_rfl
theorem j17:(Rows.wireCutsRow.wideKeys == (Tryz.f6.params.toList++Rows.wireCutsSpec.plain.varTypes Tryz.prog++Tryz.f6.resultTypes.toList).any (Tryz.prog.wideKeysFrom ·))=true:=by kernel_rfl
theorem j18:Rows.wireCutsSpec.vars.all (Tryz.prog.varReadable ·)=true:=by kernel_rfl
theorem j19:Tryz.f6.resultTypes.all (fun t=>Tryz.prog.readableRec t && decide (t<Tryz.prog.types.size))=true:=by kernel_rfl
theorem j20:(Rows.wireCutsRow.ifacesOut == Tryz.f6.resultTypes.toList.any (Tryz.prog.ifacesRec ·))=true:=by kernel_rfl
theorem j21:(Rows.wireCutsRow.loopsOut == Tryz.f6.resultTypes.toList.any (Tryz.prog.loopsFrom ·))=true:=by kernel_rfl
theorem j22:(Rows.wireCutsRow.plainKeys == Tryz.prog.plainKeys)=true:=by kernel_rfl
theorem j23:Rows.wireCutsRow.shortTexts.isNone=true:=by kernel_rfl
theorem j24:Tryz.prog.stopsHeard=true:=by kernel_rfl
theorem j25:Tryz.prog.mayEnter=true:=by kernel_rfl
theorem j26:(Rows.wireCutsRow.lifted == Tryz.prog.liftsFinal)=true:=by kernel_rfl
theorem j27:(Tryz.prog.make == some Rows.wireCutsRow.make)=true:=by kernel_rfl
theorem j28:(Rows.wireCutsRow.kinds == (if Rows.wireCutsRow.domain.isEmpty then [] else Tryz.f6.params.toList.map fun t=>match Tryz.prog.underlying t with | some (.int k)=>some k | _=>none))=true:=by kernel_rfl
theorem j29:(Rows.wireCutsRow.pinned == Rows.wireCutsRow.pinnedBy)=true:=by kernel_rfl
theorem j30:(Rows.wireCutsRow.veiled == (Tryz.f6.params.toList++Rows.wireCutsSpec.plain.varTypes Tryz.prog++Tryz.f6.resultTypes.toList).any (Tryz.prog.veiledRec ·))=true:=by kernel_rfl
theorem j31:Rows.wireCutsRow.veiledFits Tryz.prog Tryz.f6.params.toList (Tryz.f6.params.toList++Rows.wireCutsSpec.plain.varTypes Tryz.prog++Tryz.f6.resultTypes.toList)=true:=by kernel_rfl
set_option maxRecDepth 20000 in
theorem closed:joinedFacts Tryz.prog 6 Tryz.f6 Rows.wireCutsSpec Rows.wireCutsRow=true:=
 (both (both (both (both (both (both (both (both (both (both (both (both (both (both (both (both (both (both (both (both (both (both (both (both (both (both (both (both (both (both (both j0 j1) j2) j3) j4) j5) j6) j7) j8) j9) j10) j11) j12) j13) j14) j15) j16) j17) j18) j19) j20) j21) j22) j23) j24) j25) j26) j27) j28) j29) j30) j31)
theorem over:Rows.wireCutsRow.holds Tryz.pinned (OpenSpec.ofChange Rows.wireCutsSpec):=
 OpenClaim.holds_of_wide 6 Tryz.f6 rfl rfl rfl rfl rfl rfl rfl ⟨rfl,rfl,rfl,rfl,rfl⟩ rfl rfl rfl rfl rfl (by as_aux_lemma=>kernel_rfl) Tryz.func6 closed
  (of_decide_eq_true (by as_aux_lemma=>kernel_rfl)) (by as_aux_lemma=>(unfold Func.isWrapper;first | (rw[if_pos (by decide +kernel)];kernel_rfl) | (rw[if_neg (by decide +kernel)];exact⟨rfl,rfl⟩)))
  (fun os started H enc _=>lifted os started H enc)
theorem proved:Rows.WireCutsSaid:=over
theorem card:Rows.WireCutsCardSaid:=
 Claim7.holds_tied_plain_at .later [] _ _ _ _ proved (fun _ h=>by cases h) (by as_aux_lemma=>kernel_rfl) (fun _ h=>by cases h) wireCuts_row_tie rfl ⟨rfl,rfl⟩ (by as_aux_lemma=>kernel_rfl) rfl
  (fun f fn hf hfn=>by
    obtain rfl:f=6:=Option.some.inj ((show Tryz.prog.funcNamed "kenning/kenninglaw19.WireCuts" =some 6 by kernel_rfl).symm.trans hf) |>.symm
    obtain rfl:fn=Tryz.f6:=(Option.some.inj (Tryz.func6.symm.trans hfn)).symm
    exact⟨by as_aux_lemma=>kernel_rfl,fun j t ht=>by
     rw[Tryz.params6] at ht;have hm:=Array.mem_of_getElem? ht;simp at hm;rcases hm with rfl | rfl | rfl
     · exact(show Tryz.prog.wantsStandIn 25=false by kernel_rfl)
     · exact(show Tryz.prog.wantsStandIn 61=false by kernel_rfl)
     · exact(show Tryz.prog.wantsStandIn 27=false by kernel_rfl)⟩)
  (by as_aux_lemma=>kernel_rfl)
end Go.Proofs.YtdnjfnofjaoajaaGreatDoor.wireCuts
