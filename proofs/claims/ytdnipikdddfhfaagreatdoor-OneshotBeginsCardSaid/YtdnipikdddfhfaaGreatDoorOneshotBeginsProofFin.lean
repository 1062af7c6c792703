/-
  The statement OneshotBegins: the walk of the law joined to its row. Conditions: none beyond the row's own.
-/
import Derived.Test.YtdnipikdddfhfaaGreatDoorCards
import Derived.Test.YtdnipikdddfhfaaGreatDoorTie
import Derived.SevenTiedAt
import Derived.ShutString
import Derived.ChangeOld
import Derived.Test.YtdnipikdddfhfaaGreatDoorOb22
namespace Go.Proofs.YtdnipikdddfhfaaGreatDoor.oneshotBegins
open Go.ChangeShapes Go.WideShapes Go.ChangeAt Go.RowKit
open Go.ChangeMaps (open_string shut_string)
set_option linter.unusedVariables false
theorem own:ownKnob Tryz.prog.godebug=none:=by kernel_rfl
theorem laidOut:laidOutB Tryz.prog=true:=by kernel_rfl
set_option maxRecDepth 100000 in
theorem lifted (os:Os) (started:os.Started) (H:Type) (enc:TypeId×Value→H):
 ReturnsInHanded {} Tryz.checked os 12 .any (fun w args=>(Rows.oneshotBeginsSpec.pre enc Tryz.prog Tryz.f12 [] false w args∧laidMetH Tryz.prog Rows.oneshotBeginsRow.laid w)∧sizedMet enc Tryz.prog Tryz.f12 (OpenSpec.ofChange Rows.oneshotBeginsSpec) false w args) (Rows.oneshotBeginsSpec.post enc Tryz.prog Tryz.f12 false true false false):=by
 refine zo6 (C:=Tryz.checked) (X:=fun w _=>laidMetH Tryz.prog Rows.oneshotBeginsRow.laid w) (fun _ _ _ hh h=>h.of_heap hh) own started (by kernel_rfl) Tryz.func12
  (ChangeSpec.witness_shaped (enc:=enc) (C:=Tryz.checked) (os:=os) (X:=fun w _=>laidMetH Tryz.prog Rows.oneshotBeginsRow.laid w) false (zdz os) #[.slice none 0 0,.agg #[.int .i64 0,.int .i64 0,.int .i64 0,.int .i64 0,.int .i64 0],.int .u16 0] 8 (zo4 os) (zo5 os _) (by kernel_rfl) (by kernel_rfl) (by kernel_rfl) (zsb os _)) ?_
 intro W base args ds gs before hval0 hW _ _ hL hsh _;have hval:∀(j:Nat) t v,Tryz.f12.params[j]?=some t→args[j]?=some v→Value.okWide Tryz.prog W .any base t v:=hval0;have hW':=hW;obtain⟨p,q,hA0,hV,rfl,hfz,hnd⟩:=hW;have hA:DataW.TrodAll enc Tryz.prog W 0 (fun _=>true) true Tryz.f12.params.toList args.toList ds p:=hA0;rw[Tryz.params12] at hA hval;obtain⟨v0,vs0,d0,ds0,p0,q0,hargs,rfl,rfl,h0,r0⟩:=trodAll_cons hA;obtain⟨v1,vs1,d1,ds1,p1,q1,rfl,rfl,rfl,h1,r1⟩:=trodAll_cons r0;obtain⟨v2,vs2,d2,ds2,p2,q2,rfl,rfl,rfl,h2,r2⟩:=trodAll_cons r1;obtain⟨rfl,rfl,rfl⟩:=trodAll_nil r2;obtain rfl:args= #[v0,v1,v2]:=by cases args;simp_all
 obtain⟨rfl,rfl⟩:=trodVars_none hV;have k0:=h0;have lt0:∀x∈p0,x.block<W.heap.size:=by obtain⟨m,hm⟩:=k0;exact DataW.trod_lt m _ _ _ hm
 obtain⟨a0,n0,cap0,rfl⟩:=okWide_slice Tryz.underlying22 (hval 0 22 v0 rfl rfl)
 obtain⟨l0,w0⟩:∃l,Byts W a0 n0 cap0 l:=by
  obtain⟨fuel,hf⟩:=h0;exact zsd hf
 have k1:=h1;have lt1:∀x∈p1,x.block<W.heap.size:=by obtain⟨m,hm⟩:=k1;exact DataW.trod_lt m _ _ _ hm
 obtain⟨l1,rfl,li1⟩:∃l:za,v1=lmV l∧LimsI l:=by
  obtain⟨fuel,hf⟩:=h1;exact zse (okWide_struct Tryz.underlying24 (hval 1 24 v1 rfl rfl)) hf
 have k2:=h2;have lt2:∀x∈p2,x.block<W.heap.size:=by obtain⟨m,hm⟩:=k2;exact DataW.trod_lt m _ _ _ hm
 obtain⟨z2,rfl,rfl,rfl,wf2⟩:=open_int Tryz.underlying70 (hval 2 70 v2 rfl rfl) h2;obtain⟨x2,rfl,b2⟩:=zsc wf2;have hD:=zsa hL;refine(zuz _ _ _ _ _ _ W w0 li1 b2 hD).mono fun e W' ⟨he,bel⟩=>?_
 subst he;exact⟨_,rfl,_,_,_,[],_,[],hW',trodAll_mk1 (shut_bool Tryz.underlying4 _),(trodAll_cons_mk (Below.trod laidOut (by kernel_rfl) (of_decide_eq_true (by kernel_rfl)) k0 bel lt0) (trodAll_cons_mk (Below.trod laidOut (by kernel_rfl) (of_decide_eq_true (by kernel_rfl)) k1 bel lt1) (trodAll_cons_mk (Below.trod laidOut (by kernel_rfl) (of_decide_eq_true (by kernel_rfl)) k2 bel lt2) trodAll_mk0))),rfl,bel.frame _,fun h=>by cases h⟩
theorem both {a b:Bool} (ha:a=true) (hb:b=true):(a && b)=true:=by rw[ha,hb];rfl
set_option maxRecDepth 20000 in
set_option maxHeartbeats 4000000 in
theorem closed:joinedFacts Tryz.prog 12 Tryz.f12 Rows.oneshotBeginsSpec Rows.oneshotBeginsRow=true:=by
 unfold joinedFacts
 iterate 31 (refine both ?_ (by as_aux_lemma=>kernel_rfl))
 as_aux_lemma=>kernel_rfl
theorem over:Rows.oneshotBeginsRow.holds Tryz.pinned (OpenSpec.ofChange Rows.oneshotBeginsSpec):=
 OpenClaim.holds_of_wide 12 Tryz.f12 rfl rfl rfl rfl rfl rfl rfl ⟨rfl,rfl,rfl,rfl,rfl⟩ rfl rfl rfl rfl rfl (by as_aux_lemma=>kernel_rfl) Tryz.func12 closed
  (of_decide_eq_true (by as_aux_lemma=>kernel_rfl)) (by as_aux_lemma=>(unfold Func.isWrapper;first | (rw[if_pos (by decide +kernel)];kernel_rfl) | (rw[if_neg (by decide +kernel)];exact⟨rfl,rfl⟩)))
  (fun os started H enc _=>lifted os started H enc)
theorem proved:Rows.OneshotBeginsSaid:=over
theorem card:Rows.OneshotBeginsCardSaid:=
 Claim7.holds_tied_plain_at .later [] _ _ _ _ proved (fun _ h=>by cases h) (by as_aux_lemma=>kernel_rfl) (fun _ h=>by cases h) oneshotBegins_row_tie rfl ⟨rfl,rfl⟩ (by as_aux_lemma=>kernel_rfl) rfl
  (fun f fn hf hfn=>by
    obtain rfl:f=12:=Option.some.inj ((show Tryz.prog.funcNamed "kenning/kenninglaw23.OneshotBegins" =some 12 by kernel_rfl).symm.trans hf) |>.symm
    obtain rfl:fn=Tryz.f12:=(Option.some.inj (Tryz.func12.symm.trans hfn)).symm
    exact⟨by as_aux_lemma=>kernel_rfl,fun j t ht=>by
     rw[Tryz.params12] at ht;have hm:=Array.mem_of_getElem? ht;simp at hm;rcases hm with rfl | rfl | rfl
     · exact(show Tryz.prog.wantsStandIn 22=false by kernel_rfl)
     · exact(show Tryz.prog.wantsStandIn 24=false by kernel_rfl)
     · exact(show Tryz.prog.wantsStandIn 70=false by kernel_rfl)⟩)
  (by as_aux_lemma=>kernel_rfl)
end Go.Proofs.YtdnipikdddfhfaaGreatDoor.oneshotBegins
