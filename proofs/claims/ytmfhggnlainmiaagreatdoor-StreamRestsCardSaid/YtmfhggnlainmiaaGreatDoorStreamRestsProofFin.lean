/-
  The statement StreamRests: the walk of the law joined to its row. Conditions: none beyond the row's own.
-/
import Derived.Test.YtmfhggnlainmiaaGreatDoorCards
import Derived.Test.YtmfhggnlainmiaaGreatDoorTie
import Derived.SevenTiedAt
import Derived.ShutString
import Derived.ChangeOld
import Derived.Test.YtmfhggnlainmiaaGreatDoorPk22
import Derived.Test.YtmfhggnlainmiaaGreatDoorPk74
import Derived.Test.YtmfhggnlainmiaaGreatDoorPk69
namespace Go.Proofs.YtmfhggnlainmiaaGreatDoor.streamRests
open Go.ChangeShapes Go.WideShapes Go.ChangeAt Go.RowKit
open Go.ChangeMaps (open_string shut_string)
set_option linter.unusedVariables false
theorem own:ownKnob Tryz.prog.godebug=none:=by kernel_rfl
theorem laidOut:laidOutB Tryz.prog=true:=by kernel_rfl
set_option maxRecDepth 100000 in
theorem lifted (os:Os) (started:os.Started) (H:Type) (enc:TypeId×Value→H):
 ReturnsInHanded {} Tryz.checked os 9 .any (fun w args=>(Rows.streamRestsSpec.pre enc Tryz.prog Tryz.f9 [] false w args∧laidMetH Tryz.prog Rows.streamRestsRow.laid w)∧sizedMet enc Tryz.prog Tryz.f9 (OpenSpec.ofChange Rows.streamRestsSpec) false w args) (Rows.streamRestsSpec.post enc Tryz.prog Tryz.f9 false true false false):=by
 refine zgm (C:=Tryz.checked) (X:=fun w _=>laidMetH Tryz.prog Rows.streamRestsRow.laid w) (fun _ _ _ hh h=>h.of_heap hh) own started (by kernel_rfl) Tryz.func9
  (ChangeSpec.witness_shaped (enc:=enc) (C:=Tryz.checked) (os:=os) (X:=fun w _=>laidMetH Tryz.prog Rows.streamRestsRow.laid w) false (zd9 os) #[.slice none 0 0,.int .u16 0,.int .u8 0] 8 (zgk os) (zgl os _) (by kernel_rfl) (by kernel_rfl) (by kernel_rfl) (zhy os _)) ?_
 intro W base args ds gs before hval0 hW _ _ hL hsh _;have hval:∀(j:Nat) t v,Tryz.f9.params[j]?=some t→args[j]?=some v→Value.okWide Tryz.prog W .any base t v:=hval0;have hW':=hW;obtain⟨p,q,hA0,hV,rfl,hfz,hnd⟩:=hW;have hA:DataW.TrodAll enc Tryz.prog W 0 (fun _=>true) true Tryz.f9.params.toList args.toList ds p:=hA0;rw[Tryz.params9] at hA hval;obtain⟨v0,vs0,d0,ds0,p0,q0,hargs,rfl,rfl,h0,r0⟩:=trodAll_cons hA;obtain⟨v1,vs1,d1,ds1,p1,q1,rfl,rfl,rfl,h1,r1⟩:=trodAll_cons r0;obtain⟨v2,vs2,d2,ds2,p2,q2,rfl,rfl,rfl,h2,r2⟩:=trodAll_cons r1;obtain⟨rfl,rfl,rfl⟩:=trodAll_nil r2;obtain rfl:args= #[v0,v1,v2]:=by cases args;simp_all
 obtain⟨rfl,rfl⟩:=trodVars_none hV;have k0:=h0;have lt0:∀x∈p0,x.block<W.heap.size:=by obtain⟨m,hm⟩:=k0;exact DataW.trod_lt m _ _ _ hm
 obtain⟨a0,n0,cap0,rfl⟩:=okWide_slice Tryz.underlying26 (hval 0 26 v0 rfl rfl)
 obtain⟨ks0,w0⟩:∃k,KnS W a0 n0 cap0 k:=by
  obtain⟨fuel,hf⟩:=h0;obtain⟨a,n,c,k,e,hk⟩:=zqt hf;cases e;exact⟨k,hk⟩
 have k1:=h1;have lt1:∀x∈p1,x.block<W.heap.size:=by obtain⟨m,hm⟩:=k1;exact DataW.trod_lt m _ _ _ hm
 obtain⟨z1,rfl,rfl,rfl,wf1⟩:=open_int Tryz.underlying84 (hval 1 84 v1 rfl rfl) h1;obtain⟨x1,rfl,b1⟩:=yj2 wf1;have k2:=h2;have lt2:∀x∈p2,x.block<W.heap.size:=by obtain⟨m,hm⟩:=k2;exact DataW.trod_lt m _ _ _ hm
 obtain⟨z2,rfl,rfl,rfl,wf2⟩:=open_int Tryz.underlying5 (hval 2 5 v2 rfl rfl) h2;obtain⟨x2,rfl,b2⟩:=zrt wf2;have hD:=zhx hL;refine(ykf _ _ _ _ _ _ W w0 b1 b2 hD).mono fun e W' ⟨he,bel⟩=>?_
 subst he;exact⟨_,rfl,_,_,_,[],_,[],hW',trodAll_mk1 (shut_bool Tryz.underlying4 _),(trodAll_cons_mk (Below.trod laidOut (by kernel_rfl) (of_decide_eq_true (by kernel_rfl)) k0 bel lt0) (trodAll_cons_mk (Below.trod laidOut (by kernel_rfl) (of_decide_eq_true (by kernel_rfl)) k1 bel lt1) (trodAll_cons_mk (Below.trod laidOut (by kernel_rfl) (of_decide_eq_true (by kernel_rfl)) k2 bel lt2) trodAll_mk0))),rfl,bel.frame _,fun h=>by cases h⟩
theorem both {a b:Bool} (ha:a=true) (hb:b=true):(a && b)=true:=by rw[ha,hb];rfl
set_option maxRecDepth 20000 in
set_option maxHeartbeats 4000000 in
theorem closed:joinedFacts Tryz.prog 9 Tryz.f9 Rows.streamRestsSpec Rows.streamRestsRow=true:=by
 unfold joinedFacts
 iterate 31 (refine both ?_ (by as_aux_lemma=>kernel_rfl))
 as_aux_lemma=>kernel_rfl
theorem over:Rows.streamRestsRow.holds Tryz.pinned (OpenSpec.ofChange Rows.streamRestsSpec):=
 OpenClaim.holds_of_wide 9 Tryz.f9 rfl rfl rfl rfl rfl rfl rfl ⟨rfl,rfl,rfl,rfl,rfl⟩ rfl rfl rfl rfl rfl (by as_aux_lemma=>kernel_rfl) Tryz.func9 closed
  (of_decide_eq_true (by as_aux_lemma=>kernel_rfl)) (by as_aux_lemma=>(unfold Func.isWrapper;first | (rw[if_pos (by decide +kernel)];kernel_rfl) | (rw[if_neg (by decide +kernel)];exact⟨rfl,rfl⟩)))
  (fun os started H enc _=>lifted os started H enc)
theorem proved:Rows.StreamRestsSaid:=over
theorem card:Rows.StreamRestsCardSaid:=
 Claim7.holds_tied_plain_at .later [] _ _ _ _ proved (fun _ h=>by cases h) (by as_aux_lemma=>kernel_rfl) (fun _ h=>by cases h) streamRests_row_tie rfl ⟨rfl,rfl⟩ (by as_aux_lemma=>kernel_rfl) rfl
  (fun f fn hf hfn=>by
    obtain rfl:f=9:=Option.some.inj ((show Tryz.prog.funcNamed "kenning/kenninglaw24.StreamRests" =some 9 by kernel_rfl).symm.trans hf) |>.symm
    obtain rfl:fn=Tryz.f9:=(Option.some.inj (Tryz.func9.symm.trans hfn)).symm
    exact⟨by as_aux_lemma=>kernel_rfl,fun j t ht=>by
     rw[Tryz.params9] at ht;have hm:=Array.mem_of_getElem? ht;simp at hm;rcases hm with rfl | rfl | rfl
     · exact(show Tryz.prog.wantsStandIn 26=false by kernel_rfl)
     · exact(show Tryz.prog.wantsStandIn 84=false by kernel_rfl)
     · exact(show Tryz.prog.wantsStandIn 5=false by kernel_rfl)⟩)
  (by as_aux_lemma=>kernel_rfl)
end Go.Proofs.YtmfhggnlainmiaaGreatDoor.streamRests
