/-
  The statement StreamPrefixes: the walk of the law joined to its row. Conditions: none beyond the row's own.
-/
import Derived.Test.YtmfhggnlainmiaaGreatDoorCards
import Derived.Test.YtmfhggnlainmiaaGreatDoorTie
import Derived.SevenTiedAt
import Derived.ShutString
import Derived.ChangeOld
import Derived.Test.YtmfhggnlainmiaaGreatDoorPk57
import Derived.Test.YtmfhggnlainmiaaGreatDoorPk22
import Derived.Test.YtmfhggnlainmiaaGreatDoorPk25
import Derived.Test.YtmfhggnlainmiaaGreatDoorPk35
namespace Go.Proofs.YtmfhggnlainmiaaGreatDoor.streamPrefixes
open Go.ChangeShapes Go.WideShapes Go.ChangeAt Go.RowKit
open Go.ChangeMaps (open_string shut_string)
set_option linter.unusedVariables false
theorem own:ownKnob Tryz.prog.godebug=none:=by kernel_rfl
theorem laidOut:laidOutB Tryz.prog=true:=by kernel_rfl
set_option maxRecDepth 100000 in
theorem lifted (os:Os) (started:os.Started) (H:Type) (enc:TypeId×Value→H):
 ReturnsInHanded {} Tryz.checked os 13 .any (fun w args=>(Rows.streamPrefixesSpec.pre enc Tryz.prog Tryz.f13 [] false w args∧laidMetH Tryz.prog Rows.streamPrefixesRow.laid w)∧sizedMet enc Tryz.prog Tryz.f13 (OpenSpec.ofChange Rows.streamPrefixesSpec) false w args) (Rows.streamPrefixesSpec.post enc Tryz.prog Tryz.f13 false true false false):=by
 refine zgm (C:=Tryz.checked) (X:=fun w _=>laidMetH Tryz.prog Rows.streamPrefixesRow.laid w) (fun _ _ _ hh h=>h.of_heap hh) own started (by kernel_rfl) Tryz.func13
  (ChangeSpec.witness_shaped (enc:=enc) (C:=Tryz.checked) (os:=os) (X:=fun w _=>laidMetH Tryz.prog Rows.streamPrefixesRow.laid w) false (zd9 os) #[.slice none 0 0,.agg #[.int .i64 0,.int .i64 0,.int .i64 0,.int .i64 0,.int .i64 0],.slice none 0 0] 8 (zgk os) (zgl os _) (by kernel_rfl) (by kernel_rfl) (by kernel_rfl) (zhy os _)) ?_
 intro W base args ds gs before hval0 hW _ _ hL hsh _;have hval:∀(j:Nat) t v,Tryz.f13.params[j]?=some t→args[j]?=some v→Value.okWide Tryz.prog W .any base t v:=hval0;have hW':=hW;obtain⟨p,q,hA0,hV,rfl,hfz,hnd⟩:=hW;have hA:DataW.TrodAll enc Tryz.prog W 0 (fun _=>true) true Tryz.f13.params.toList args.toList ds p:=hA0;rw[Tryz.params13] at hA hval;obtain⟨v0,vs0,d0,ds0,p0,q0,hargs,rfl,rfl,h0,r0⟩:=trodAll_cons hA;obtain⟨v1,vs1,d1,ds1,p1,q1,rfl,rfl,rfl,h1,r1⟩:=trodAll_cons r0;obtain⟨v2,vs2,d2,ds2,p2,q2,rfl,rfl,rfl,h2,r2⟩:=trodAll_cons r1;obtain⟨rfl,rfl,rfl⟩:=trodAll_nil r2;obtain rfl:args= #[v0,v1,v2]:=by cases args;simp_all
 obtain⟨rfl,rfl⟩:=trodVars_none hV;have k0:=h0;have lt0:∀x∈p0,x.block<W.heap.size:=by obtain⟨m,hm⟩:=k0;exact DataW.trod_lt m _ _ _ hm
 obtain⟨a0,n0,cap0,rfl⟩:=okWide_slice Tryz.underlying22 (hval 0 22 v0 rfl rfl)
 obtain⟨l0,w0⟩:∃l,Byts W a0 n0 cap0 l:=by
  obtain⟨fuel,hf⟩:=h0;exact zi6 hf
 have k1:=h1;have lt1:∀x∈p1,x.block<W.heap.size:=by obtain⟨m,hm⟩:=k1;exact DataW.trod_lt m _ _ _ hm
 obtain⟨l1,rfl,li1⟩:∃l:zc,v1=lmV l∧LimsI l:=by
  obtain⟨fuel,hf⟩:=h1;exact zi5 (okWide_struct Tryz.underlying24 (hval 1 24 v1 rfl rfl)) hf
 have k2:=h2;have lt2:∀x∈p2,x.block<W.heap.size:=by obtain⟨m,hm⟩:=k2;exact DataW.trod_lt m _ _ _ hm
 obtain⟨a2,n2,cap2,rfl⟩:=okWide_slice Tryz.underlying22 (hval 2 22 v2 rfl rfl)
 obtain⟨l2,w2⟩:∃l,Byts W a2 n2 cap2 l:=by
  obtain⟨fuel,hf⟩:=h2;exact zi6 hf
 have hD:=zhx hL;refine(yg9 _ _ _ _ _ _ _ _ _ W w0 w2 li1 hD).mono fun e W' ⟨he,bel⟩=>?_
 subst he;exact⟨_,rfl,_,_,_,[],_,[],hW',trodAll_mk1 (shut_bool Tryz.underlying4 _),(trodAll_cons_mk (Below.trod laidOut (by kernel_rfl) (of_decide_eq_true (by kernel_rfl)) k0 bel lt0) (trodAll_cons_mk (Below.trod laidOut (by kernel_rfl) (of_decide_eq_true (by kernel_rfl)) k1 bel lt1) (trodAll_cons_mk (Below.trod laidOut (by kernel_rfl) (of_decide_eq_true (by kernel_rfl)) k2 bel lt2) trodAll_mk0))),rfl,bel.frame _,fun h=>by cases h⟩
theorem both {a b:Bool} (ha:a=true) (hb:b=true):(a && b)=true:=by rw[ha,hb];rfl
set_option maxRecDepth 20000 in
set_option maxHeartbeats 4000000 in
theorem closed:joinedFacts Tryz.prog 13 Tryz.f13 Rows.streamPrefixesSpec Rows.streamPrefixesRow=true:=by
 unfold joinedFacts
 iterate 31 (refine both ?_ (by as_aux_lemma=>kernel_rfl))
 as_aux_lemma=>kernel_rfl
theorem over:Rows.streamPrefixesRow.holds Tryz.pinned (OpenSpec.ofChange Rows.streamPrefixesSpec):=
 OpenClaim.holds_of_wide 13 Tryz.f13 rfl rfl rfl rfl rfl rfl rfl ⟨rfl,rfl,rfl,rfl,rfl⟩ rfl rfl rfl rfl rfl (by as_aux_lemma=>kernel_rfl) Tryz.func13 closed
  (of_decide_eq_true (by as_aux_lemma=>kernel_rfl)) (by as_aux_lemma=>(unfold Func.isWrapper;first | (rw[if_pos (by decide +kernel)];kernel_rfl) | (rw[if_neg (by decide +kernel)];exact⟨rfl,rfl⟩)))
  (fun os started H enc _=>lifted os started H enc)
theorem proved:Rows.StreamPrefixesSaid:=over
theorem card:Rows.StreamPrefixesCardSaid:=
 Claim7.holds_tied_plain_at .later [] _ _ _ _ proved (fun _ h=>by cases h) (by as_aux_lemma=>kernel_rfl) (fun _ h=>by cases h) streamPrefixes_row_tie rfl ⟨rfl,rfl⟩ (by as_aux_lemma=>kernel_rfl) rfl
  (fun f fn hf hfn=>by
    obtain rfl:f=13:=Option.some.inj ((show Tryz.prog.funcNamed "kenning/kenninglaw24.StreamPrefixes" =some 13 by kernel_rfl).symm.trans hf) |>.symm
    obtain rfl:fn=Tryz.f13:=(Option.some.inj (Tryz.func13.symm.trans hfn)).symm
    exact⟨by as_aux_lemma=>kernel_rfl,fun j t ht=>by
     rw[Tryz.params13] at ht;have hm:=Array.mem_of_getElem? ht;simp at hm;rcases hm with rfl | rfl | rfl
     · exact(show Tryz.prog.wantsStandIn 22=false by kernel_rfl)
     · exact(show Tryz.prog.wantsStandIn 24=false by kernel_rfl)
     · exact(show Tryz.prog.wantsStandIn 22=false by kernel_rfl)⟩)
  (by as_aux_lemma=>kernel_rfl)
end Go.Proofs.YtmfhggnlainmiaaGreatDoor.streamPrefixes
