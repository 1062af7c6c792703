/- Walks and laws, joined: La26. -/
import Derived.Test.YtkkdlgcfcbaibaaGreatDoorLa24
import Derived.Test.YtkkdlgcfcbaibaaGreatDoorLa25
import Derived.Test.YtkkdlgcfcbaibaaGreatDoorLa16
import Derived.Test.YtkkdlgcfcbaibaaGreatDoorLa10
import Derived.Test.YtkkdlgcfcbaibaaGreatDoorLa07
import Derived.Test.YtkkdlgcfcbaibaaGreatDoorLa08
import Derived.Test.YtkkdlgcfcbaibaaGreatDoorLa17
import Derived.Test.YtkkdlgcfcbaibaaGreatDoorLa19
set_option linter.unusedVariables false
namespace Go.Proofs.YtkkdlgcfcbaibaaGreatDoor
section
open Go.RowKit Go.Maps
structure Met (D : DataW Value) (left : Lit → Bool) (L : List Nat) : Prop where
 asc : Asc L
 mem : ∀ x : Nat, x ∈ L ↔ (Maps.has D (.int .u64 (x : Int)) = true ∧ left (.int .u64 (x : Int)) = false)
theorem Met.start (D : DataW Value) : Met D (Maps.has D) [] := ⟨trivial, fun x => by cases Maps.has D (.int .u64 (x : Int)) <;> simp⟩
theorem sameU (x y : Nat) : Lit.sameKey (.int .u64 (x : Int)) (.int .u64 (y : Int)) = decide (x = y) := by
 by_cases e : x = y
 · subst e; simp [WideAt.sameKey_self (show WideAt.IsKeyLit (.int .u64 (x : Int)) from trivial)]
 · rw [sameKey_ne (litU_inj e), decide_eq_false e]
theorem Met.new {D : DataW Value} {left : Lit → Bool} {L : List Nat} (h : Met D left L) {x : Nat} (hl : left (.int .u64 (x : Int)) = true) : x ∉ L := fun hx => by
 have := ((h.mem x).1 hx).2
 rw [hl] at this; cases this
theorem Met.step {D : DataW Value} {left : Lit → Bool} {L : List Nat} (h : Met D left L) {x : Nat} (hh : Maps.has D (.int .u64 (x : Int)) = true) : Met D (fun z => left z && !z.sameKey (.int .u64 (x : Int))) (insA L x) := by
 refine ⟨insA_asc h.asc, fun y => ?_⟩
 rw [insA_mem, h.mem y, sameU]
 by_cases e : y = x
 · subst e; simp [hh]
 · simp [e]
theorem Met.all {D : DataW Value} {left : Lit → Bool} {L S : List Nat} (h : Met D left L) (hl : ∀ kl, left kl = false) (hS : Asc S) (hk : ∀ r : Nat, Maps.has D (.int .u64 (r : Int)) = decide (r ∈ S)) : L = S :=
 asc_ext h.asc hS fun x => by rw [h.mem x, hk x, hl]; simp
theorem Met.sub {D : DataW Value} {left : Lit → Bool} {L S : List Nat} (h : Met D left L) (hk : ∀ r : Nat, Maps.has D (.int .u64 (r : Int)) = decide (r ∈ S)) : ∀ x ∈ L, x ∈ S := fun x hx => by
 have h2 := ((h.mem x).1 hx).1
 rw [hk x] at h2
 simpa using h2
theorem Met.len {D : DataW Value} {left : Lit → Bool} {L S : List Nat} (h : Met D left L) (hk : ∀ r : Nat, Maps.has D (.int .u64 (r : Int)) = decide (r ∈ S)) : L.length ≤ S.length :=
 asc_len h.asc (fun x hx => h.sub hk x hx)
theorem insA_len0 : ∀ (l : List Nat) (x : Nat), (insA l x).length ≤ l.length + 1
 | [], x => by simp [insA]
 | a :: l, x => by
   rw [insA]
   split
   · simp
   · split
     · simp
     · have := insA_len0 l x; simp; omega
theorem foldA_len : ∀ (l acc : List Nat), (l.foldl insA acc).length ≤ acc.length + l.length
 | [], acc => by simp
 | x :: l, acc => by
   have h1 := foldA_len l (insA acc x)
   have h2 := insA_len0 acc x
   rw [List.foldl_cons, List.length_cons]; omega
theorem repsV_len (va vb : Vec) : (repsV va vb).length ≤ va.length + vb.length := by
 have := foldA_len (va.map (·.1) ++ vb.map (·.1)) []
 unfold repsV sortA
 simp at this ⊢
 exact this
theorem repsV_lt {va vb : Vec} (ha : LtV va) (hb : LtV vb) : ∀ r ∈ repsV va vb, r < 18446744073709551616 := fun r hr => by
 unfold repsV at hr
 rw [sortA_mem, List.mem_append, List.mem_map, List.mem_map] at hr
 rcases hr with ⟨e, he, rfl⟩ | ⟨e, he, rfl⟩
 · exact (ha e he).rep
 · exact (hb e he).rep
def doU (va vb : Vec) (r : Nat) : Option Ent := ofE r (opL gOr (knownAt va r) (knownAt vb r))
set_option maxRecDepth 100000 in
set_option maxHeartbeats 8000000 in
theorem doU_any (a b : Option Addr) (n c m d : Nat) (va vb : Vec) (w : World) (hA : Ents w a n c va) (hB : Ents w b m d vb) (fa : VecFits va) (fb : VecFits vb) (ca : ckV va = none) (cb : ckV vb = none) :
 Calls Tryz.prog 194 #[.slice a n c, .slice b m d, .func (.func 71) #[] #[]] w fun e w' => (∃ y, e = .returned y ∧ OwnV2 w' w.heap.size y (doV gOr va vb)) ∧ Below w.heap.size w w' := by
 have hC := Lib.hid (pair_any a b n c m d va vb w hA hB fa fb ca cb)
 have Hla := Lib.hid (show (repsV va vb).length ≤ 600 from by
  have h1 := repsV_len va vb
  have h2 := fa.len; have h3 := fb.len; omega)
 have HltA := Lib.hid hA.lt; have HltB := Lib.hid hB.lt
 have HFa := Lib.hid fa; have HFb := Lib.hid fb
 clear hA hB fa fb ca cb
 go_enter Tryz.func194, Tryz.ntmps194
 go_wp2_with fail
 refine hC.out.mono ?_
 rintro e w1 ⟨⟨B, D, rfl, hBw, hP⟩, hb1⟩
 have hal2 : Below w1.heap.size w1 (w1.alloc (.cells #[.slice none 0 0] 269)) := (Below.refl _ _).alloc (Nat.le_refl _) _
 have hs2 : (w1.alloc (.cells #[.slice none 0 0] 269)).heap.size = w1.heap.size + 1 := by simp
 have hr2 : (w1.alloc (.cells #[.slice none 0 0] 269)).heap[w1.heap.size]? = some (.cells #[.slice none 0 0] 269) := row_new rfl
 have hP2 := hP.steady (Steady.of_below hal2) (hP.own.kept (grown_of_below hal2) (by simp))
 have hBlt := hP.own.lt
 have hbw2 := hb1.trans (hal2.mono hb1.size)
 have hws := hb1.size
 obtain ⟨N, hN⟩ : ∃ N, N = w1.heap.size := ⟨_, rfl⟩
 rw [← hN] at hs2 hr2 hBlt hws
 obtain ⟨W2, hW2⟩ : ∃ W2, W2 = w1.alloc (.cells #[.slice none 0 0] 269) := ⟨_, rfl⟩
 rw [← hW2] at hs2 hr2 hP2 hbw2
 have HW2 := Lib.hid hW2; have HN := Lib.hid hN
 have HP2 := Lib.hid hP2; have Hr2 := Lib.hid hr2; have Hs2 := Lib.hid hs2; have Hbw2 := Lib.hid hbw2
 clear hP hb1 hal2 hs2 hr2 hP2 hbw2 hW2 hN hC
 go_wp2_with (at_range; rw [← HN.out, ← HW2.out]; refine wpList_range_own _ rfl _ _ rfl 24 271 keyU Tryz.underlying266 rP B 1000 D rfl HP2.out.own ?_; intro w3 hrg3 hg3 hs3)
 go_frame
 rw [Hs2.out] at hrg3 hs3 ⊢
 clear HW2 HN
 have Hst := Lib.hid hrg3
 have Hk3 := Lib.hid (show w3.heap[N]? = some (.cells #[.slice none 0 0] 269) from (hg3.block N (by rw [Hs2.out]; omega) (by simp)).trans Hr2.out)
 have Hs3 := Lib.hid hs3
 have Hb3 := Lib.hid (show Below w.heap.size w w3 from Hbw2.out.grown hg3 (Hbw2.out.size) (fun k hk => by cases hk))
 have HP3 := Lib.hid (HP2.out.steady (Steady.of_below (w := W2) ⟨hg3.os, hg3.tape, hg3.output, hg3.size, fun k hk => hg3.block k hk (by simp)⟩) hrg3.owns)
 clear hrg3 hs3 hg3 Hr2 HP2
 go_loopw [9] (fun _ wr => ∃ (left : Lit → Bool) (cnt : Nat) (L : List Nat) (v : Value), Hid (wr.ranges Tryz.prog 24 rP B (N + 1) 1000 D left cnt) ∧ Hid (wr.heap[N]? = some (.cells #[v] 269)) ∧
  Hid (wr.ownsRow (N + 2) 24 1 v L.length (u64C L)) ∧ Hid (Met D left L) ∧ Hid (Kept (fun k => k < N + 2 ∧ k ≠ N ∧ k ≠ N + 1) w3 wr)) (fun _ wr => wr.rangeLeft B (N + 1))
 case atStart => exact ⟨_, _, [], _, Hst.out, Hk3.out, World.ownsRow_nil _ _ _ _, Met.start D, Kept.refl _ _⟩
 case round =>
  obtain ⟨left, cnt, L, v, hrg, hv, ho, hM, hK⟩ := hrel
  have Hrg := Lib.hid hrg.out
  clear hrg
  go_wp2_with (at_next; refine wpList_next_U rfl _ rfl rP B (N + 1) 1000 D left cnt rfl Hrg.out ?_ ?_)
  · intro hl0
    have hL : L = repsV va vb := hM.out.all hl0 (sortA_asc _) HP3.out.keys
    subst hL
    obtain ⟨a', c', rfl, hU⟩ := u64s_own ho.out (repsV_lt HltA.out HltB.out)
    have hst : Steady w.heap.size isIvT w3 wr := steady_kept hK.out (fun k hk h => by
     have hs3 := Hs3.out
     rcases h with h | ⟨C, T, fr, hT, h⟩
     · exact ⟨by omega, by omega, by omega⟩
     · refine ⟨by omega, fun e => ?_, fun e => ?_⟩
       · subst e
         rw [Hk3.out] at h
         cases h
         cases hT
       · subst e
         obtain ⟨_, _, _, _, _, _, _, _, _, h5, _⟩ := Hst.out
         rw [h5] at h
         cases h)
    have HP6 := Lib.hid (HP3.out.steady hst Hrg.out.owns)
    have Hb6 := Lib.hid (show Below w.heap.size w wr from Hb3.out.trans (hK.out.toBelow (fun k hk => ⟨by omega, by omega, by omega⟩) (Hb3.out.size)))
    have HU := Lib.hid hU
    have hv0 := box_cell hv.out
    have hwr := Hb6.out.size
    clear hl0 Hrg hv ho hM hK hU hst Hst Hk3 Hs3 Hb3 HP3 Hs2 Hbw2
    generalize hR : repsV va vb = R at *
    have HR := Lib.hid hR
    clear hR
    have Hlt := Lib.hid HU.out.lt
    have hRl := Hla.out
    generalize wr = w6 at *
    go_wp2
    go_loopw [10, 12, 13, 14, 29] (fun y _ _ _ i wr2 => ∃ k : Nat, k ≤ R.length ∧ i = .int .i64 k ∧ Hid (Below w6.heap.size w6 wr2) ∧ Hid (OwnV2 wr2 w6.heap.size y ((R.take k).filterMap (doU va vb)))) (fun _ _ _ _ i _ => R.length - (intOf i).toNat)
    case atStart => exact ⟨0, by omega, rfl, Below.refl _ _, ownV2_nil _ _⟩
    case round =>
     obtain ⟨k, hk, rfl, Hb, Ho⟩ := hrel
     by_cases hkn : k < R.length
     · obtain ⟨bb, oo, rfl, hcell⟩ := (HU.out.below Hb.out).cells (by omega)
       have hc0 := hcell k hkn
       have hx64 := Hlt.out _ (show nth R k ∈ R by simp [nth, hkn])
       have Hst := Lib.hid (show (R.take (k + 1)).filterMap (doU va vb) = (R.take k).filterMap (doU va vb) ++ (match doU va vb (nth R k) with | none => [] | some e => [e]) from by
        rw [List.take_succ_eq_append_getElem hkn, List.filterMap_append]
        congr 1
        have : R[k] = nth R k := by simp [nth, hkn]
        rw [this]
        cases h : doU va vb (nth R k) <;> simp [h])
       have HoL := Lib.hid (show ((R.take k).filterMap (doU va vb)).length ≤ 600 from by
        have h1 := List.length_filterMap_le (doU va vb) (R.take k)
        rw [List.length_take] at h1; omega)
       obtain ⟨a1, n1, c1, a2, n2, c2, hat, hi1, hi2⟩ := HP6.out.vals (nth R k)
       have hroom := HU.out.room
       have Hm := Lib.hid (HP6.out.own.kept (grown_of_below Hb.out) (by simp))
       generalize (R.take k).filterMap (doU va vb) = V at *
       generalize nth R k = x at *
       have ha1 := knownAt_len HltA.out HFa.out x
       have ha2 := knownAt_len HltB.out HFb.out x
       have hC := Lib.hid (union_any a1 a2 n1 c1 n2 c2 (knownAt va x) (knownAt vb x) wr (hi1.ivs.below Hb.out) (hi2.ivs.below Hb.out) (knownAt_good HltA.out x) (knownAt_good HltB.out x) (by omega))
       obtain ⟨hg3, -, hl3⟩ := opL_good (g := gOr) (knownAt_lt HltA.out x) (knownAt_lt HltB.out x) rfl
       have hn3 := opL_len_or (knownAt_lt HltA.out x) (knownAt_lt HltB.out x)
       have HE := Lib.hid (show doU va vb x = ofE x (opL gOr (knownAt va x) (knownAt vb x)) from rfl)
       generalize opL gOr (knownAt va x) (knownAt vb x) = O at *
       have Hg3 := Lib.hid hg3; have Hl3 := Lib.hid hl3
       have hO : O.length ≤ 1002 := by omega
       clear hcell hi1 hi2 hg3 hl3 hn3 ha1 ha2
       have h0 : (0 : Int) ≤ k := by omega
       have h04 : (k : Int) < (R.length : Int) := by omega
       go_wp2_with (first
        | (at_lookup; refine wpList_lookup_P rfl _ _ _ rfl Tryz.underlying266 B 1000 D rfl Hm.out x hx64 rfl _ hat ?_)
        | (refine wpList_index_sl _ _ _ rfl rfl _ 0 2 28 73 _ rfl rfl Tryz.underlying271 (by omega) Tryz.underlying28 sizeRng rfl ?_)
        | (refine wpList_index_sl _ _ _ rfl rfl _ 1 2 28 73 _ rfl rfl Tryz.underlying271 (by omega) Tryz.underlying28 sizeRng rfl ?_))
       refine hC.out.mono ?_
       rintro e w7 ⟨⟨v3, rfl, ho3⟩, hb7⟩
       obtain ⟨a3, c3, rfl, hI3⟩ := ivs_own ho3 Hl3.out
       have hD := Lib.hid (of_any x a3 O.length c3 O w7 hI3 Hg3.out (by omega))
       have Hb7 := Lib.hid (Hb.out.trans (hb7.mono Hb.out.size))
       have Ho7 := Lib.hid (Ho.out.below hb7)
       clear ho3 hI3 hb7 hat hc0
       go_wp2_with fail
       refine hD.out.mono ?_
       rintro e w8 ⟨hof, hb8⟩
       have Hb8 := Lib.hid (Hb7.out.trans (hb8.mono Hb7.out.size))
       have Ho8 := Lib.hid (Ho7.out.below hb8)
       clear hb8
       have heE := HE.out
       cases hoE : ofE x O with
       | none =>
        rw [hoE] at hof heE
        rw [heE] at Hst
        simp only [List.append_nil] at Hst
        obtain rfl : e = .returned (.tuple #[entV (0, 0, []) (.slice none 0 0), .bool false]) := hof
        clear hoE heE HE
        go_wp2
        go_roundw
        case rel => exact ⟨k + 1, by omega, by go_num, Hb8.out.alloc (by have := Hb8.out.size; omega) _, by rw [Hst.out]; exact Ho8.out.below ((Below.refl _ _).alloc (Nat.le_refl _) _)⟩
        case measure => simp [intOf]; omega
       | some f =>
        rw [hoE] at hof heE
        rw [heE] at Hst
        have hlf : Lt64 f.2.2 := by
         by_cases hne : O = []
         · rw [(ofE_is Hg3.out Hl3.out (r := x)).none hne] at hoE; cases hoE
         · obtain ⟨f', hf', -, -, h3, -⟩ := (ofE_is Hg3.out Hl3.out (r := x)).some hne
           rw [hf'] at hoE
           cases hoE
           exact h3
        obtain ⟨sa, sc, rfl, hs, hbk⟩ := ofRes_own2 hof hlf
        have Hbk := Lib.hid (show 0 < f.2.2.length → ∀ p, sa = some p → w6.heap.size ≤ p.block from fun _ p hp => Nat.le_trans Hb7.out.size (hbk p hp))
        clear hbk
        obtain ⟨er, em, eh⟩ := f
        simp only at hs Hbk
        have Hs := Lib.hid (hs 0)
        have hal2 : Below w8.heap.size w8 ((w8.alloc (.cells #[.int .u64 er, .int .u64 em, .slice sa eh.length sc] 71)).alloc (.cells #[.int .u64 er, .int .u64 em, .slice sa eh.length sc] 71)) :=
         ((Below.refl w8.heap.size w8).alloc (Nat.le_refl _) _).alloc (by simp) _
        have Hal2 := Lib.hid hal2
        clear hoE heE HE hof hs hal2 hlf
        go_wp2_with (at_builtin; refine wpList_append_ent2 rfl _ _ rfl rfl w6.heap.size _ V rfl (Ho8.out.below Hal2.out) _ 1 (er, em, eh) sa eh.length sc (Hs.out.steady (P := fun _ => True) (.of_below Hal2.out) trivial) Hbk.out rfl (rd_block (heap_at_new _ _ _ (by simp)) rfl rfl) (by have := HoL.out; omega) (by have := Hb8.out.size; simp; omega) ?_; intro v' w9 ho9 hg9)
        have Hb9 := Lib.hid (Below.grown (Hb8.out.trans (Hal2.out.mono Hb8.out.size)) hg9 (by have := Hb8.out.size; have := Hal2.out.size; omega) (fun k hk => (Ho8.out.lt k hk).1))
        go_roundw
        case rel => exact ⟨k + 1, by omega, by go_num, Hb9.out, by rw [Hst.out]; exact ho9⟩
        case measure => simp [intOf]; omega
     · obtain rfl : k = R.length := by omega
       have HF := Lib.hid (show doV gOr va vb = (R.take R.length).filterMap (doU va vb) from by rw [List.take_length]; unfold doV; rw [HR.out]; rfl)
       go_wp2
       go_ret
       exact ⟨⟨_, rfl, by rw [HF.out]; exact Ho.out.lower hwr⟩, Hb6.out.trans (Hb.out.mono Hb6.out.size)⟩
  · intro x u w4 cnt4 hx hlx hhx hrg4 hlt4 hg4 hs4 hen
    have hsz := hK.out.size
    have hv4 : w4.heap[N]? = some (.cells #[v] 269) := (hg4.block N (by have := Hs3.out; omega) (by simp)).trans hv.out
    have ho4 : w4.ownsRow (N + 2) 24 1 v L.length (u64C L) := own_same ho.out (fun k hk1 hk2 => hg4.block k hk2 (by simp; omega))
    have hC := Lib.hid (addS_any N (N + 2) v L x w4 hv4 ho4 (by omega) (by have := Hs3.out; omega) (fun y hy => repsV_lt HltA.out HltB.out y (hM.out.sub HP3.out.keys y hy)) hM.out.asc (hM.out.new hlx) (by have := hM.out.len HP3.out.keys; have := Hla.out; omega))
    have Hx := Lib.hid hx; have Hhx := Lib.hid hhx; have Hrg4 := Lib.hid hrg4; have Hlt4 := Lib.hid hlt4; have Hg4 := Lib.hid hg4; have Hs4 := Lib.hid hs4
    clear hx hlx hhx hrg4 hlt4 hg4 hs4 hv4 ho4 hsz
    go_wp2_with fail
    refine hC.out.mono ?_
    rintro e w5 ⟨rfl, v5, hv5, ho5, hk5⟩
    have hk45 : w4.heap.size ≤ w5.heap.size := hk5.size
    have hrg5 : w5.ranges Tryz.prog 24 rP B (N + 1) 1000 D (fun z => left z && !z.sameKey (.int .u64 (x : Int))) cnt4 := ranges_same Hrg4.out (hk5.row B (by have := Hs3.out; have := hK.out.size; have := Hs4.out; omega) ⟨by omega, by omega⟩) (hk5.row (N + 1) (by have := Hs3.out; have := hK.out.size; have := Hs4.out; omega) ⟨by omega, by omega⟩)
    have HK5 := Lib.hid ((hK.out.grown Hg4.out (fun k hk hkw hkp => by cases hk; exact hkp.2.2 rfl)).trans (hk5.mono (fun k hk hp => ⟨hp.1, hp.2.1⟩)))
    have Hrg5 := Lib.hid hrg5; have Hv5 := Lib.hid hv5; have Ho5 := Lib.hid ho5
    have HM5 := Lib.hid (hM.out.step Hhx.out)
    clear hv5 ho5 hk5 hrg5 hen
    go_wp2
    go_roundw
    case rel => exact ⟨_, cnt4, _, v5, Hrg5.out, Hv5.out, Ho5.out, HM5.out, HK5.out⟩
    case measure => rw [Hrg5.out.left_eq, Hrg.out.left_eq]; exact Hlt4.out
end
section
open Go.RowKit Go.Shelf
attribute [local go_sem] Oper.semAt_some wide_fn
theorem with_any (a : Option Addr) (n c t : Nat) (w : World) : Calls Tryz.prog 159 #[.slice a n c, .int .u64 t] w fun e w' =>
 e = .returned (.func (.func 193) #[] #[.pointer (some ⟨w.heap.size, 0, none⟩), .pointer (some ⟨w.heap.size + 1, 0, none⟩)]) ∧ w' = (w.alloc (.cells #[.slice a n c] 23)).alloc (.cells #[.int .u64 t] 24) := by
 go_enter Tryz.func159, Tryz.ntmps159
 go_wp2
 go_ret
 exact ⟨by simp, rfl⟩
theorem box2' (w : World) (x y : Value) (T : TypeId) (w' : World) (h : Below (w.alloc (.cells #[x, y] T)).heap.size (w.alloc (.cells #[x, y] T)) w') :
 w'.cell? ⟨w.heap.size, 0, none⟩ = some x ∧ w'.cell? ⟨w.heap.size, 1, none⟩ = some y := by
 have hrow : (w.alloc (.cells #[x, y] T)).heap[w.heap.size]? = some (.cells #[x, y] T) := row_new rfl
 exact ⟨(h.cell (p := ⟨w.heap.size, 0, none⟩) (by simp)).trans (cells_cell (i := 0) hrow rfl),
  (h.cell (p := ⟨w.heap.size, 1, none⟩) (by simp)).trans (cells_cell (i := 1) hrow rfl)⟩
abbrev WEl := Nat × Value × Value
def wEnc (x : WEl) : Array Value := #[.int .i64 ((x.1 : Nat) : Int), .agg #[x.2.1, x.2.2]]
def SlOf (w : World) (k : Kno) (x : WEl) : Prop := (∃ a n c, x.2.1 = .slice a n c ∧ Ivs w a n c (nthF k x.1).1) ∧ ∃ a n c, x.2.2 = .slice a n c ∧ Ents w a n c (nthF k x.1).2
set_option maxRecDepth 20000 in
set_option maxHeartbeats 4000000 in
theorem with_seq (n : Nat) (w0 w : World) (bk bt : Nat) (a : Option Addr) (m c t : Nat) (k : Kno) (hE : Frags w0 a m c k) (hG : ∀ f ∈ k, Good f.1 ∧ f.1.length ≤ 1000000) (hb0 : Below w0.heap.size w0 w) (hm : m ≤ 500)
 (hbk : w.heap[bk]? = some (.cells #[.slice a m c] 23)) (hbt : w.heap[bt]? = some (.cells #[.int .u64 t] 24)) :
 SeqW n Tryz.prog 193 #[.pointer (some ⟨bk, 0, none⟩), .pointer (some ⟨bt, 0, none⟩)] wEnc
  (fun pre => (∃ rest, membersK k t = pre.map (·.1) ++ rest) ∧ ∀ x ∈ pre, SlOf w0 k x) (fun xs => membersK k t = xs.map (·.1) ∧ ∀ x ∈ xs, SlOf w0 k x)
  (fun _ => False) (fun k => k < w0.heap.size ∨ k = bk ∨ k = bt) w := by
 intro l J Jx W hl hW hJ hJx hY h0
 have H0 := Lib.hid (hb0.trans (hW.mono hb0.size))
 have hrk := (hW.block bk (Array.getElem?_eq_some_iff.1 hbk).1).trans hbk
 have hrt := (hW.block bt (Array.getElem?_eq_some_iff.1 hbt).1).trans hbt
 have Hrt := Lib.hid hrt
 have HE := Lib.hid hE
 have Hl := Lib.hid hE.len
 have HG := Lib.hid hG
 have HJ := Lib.hid (fun s A B (h : J s A) (hb : Below A.heap.size A B) => hJ s A B h ((Kept.refl _ A).below hb))
 have HY := Lib.hid hY; have Hj0 := Lib.hid h0
 clear hE hb0 hbk hbt hW hJ hJx hY h0 hl hG hrt
 refine callsIn_of_wp Tryz.func193 rfl trivial ?_ rfl
 simp only [Tryz.ntmps193, List.size_toArray, List.length_cons, List.length_nil, Nat.reduceAdd, Nat.reduceSub, Array.replicate_succ, Array.replicate_zero, List.push_toArray, List.append_toArray, List.nil_append, List.cons_append]
 have q1 := box_cell hrk
 clear hrk
 gi_wp2
 clear q1
 gi_loopw [4, 5, 8] (fun _ _ i wr => ∃ d : Nat, d ≤ m ∧ i = .int .i64 d ∧ Hid (Below w0.heap.size w0 wr ∧ wr.heap[bt]? = some (.cells #[.int .u64 t] 24) ∧ ∃ pre, J pre wr ∧ memTo k t d = pre.map (·.1) ∧ ∀ x ∈ pre, SlOf w0 k x)) (fun _ _ i _ => m - (intOf i).toNat)
 case atStart => exact ⟨0, by omega, rfl, H0.out, Hrt.out, [], Hj0.out, rfl, fun x hx => by cases hx⟩
 case round =>
  obtain ⟨d, hd, rfl, hinv⟩ := hrel
  obtain ⟨hb, hrt, pre, hj, hpre, hsl⟩ := hinv.out
  by_cases hdm : d < m
  · have hdk : d < k.length := by rw [Hl.out]; exact hdm
    obtain ⟨bb, oo, rfl⟩ := HE.out.some (by omega)
    obtain ⟨x, n1, c1, y, n2, c2, hq⟩ := HE.out.fix hdm
    obtain ⟨q1, hI, q2, hV⟩ := hq wr hb
    have Hsl0 := Lib.hid (show SlOf w0 k (d, .slice x n1 c1, .slice y n2 c2) from ⟨⟨_, _, _, rfl, (hq w0 (Below.refl _ _)).2.1⟩, _, _, _, rfl, (hq w0 (Below.refl _ _)).2.2.2⟩)
    have Hst := Lib.hid (memTo_succ k t d)
    have Hmem := Lib.hid (show mem (nthF k d).1 t = true → ∃ rest, membersK k t = memTo k t d ++ [d] ++ rest from fun h => by
     have h1 : membersK k t = memTo k t k.length := rfl
     have h2 : ∀ e, memTo k t (d + 1 + e) = memTo k t (d + 1) ++ ((List.range e).map (d + 1 + ·)).filter fun i => mem (nthF k i).1 t := by
      intro e
      unfold memTo
      rw [List.range_add, List.filter_append]
     obtain ⟨e, he⟩ : ∃ e, k.length = d + 1 + e := ⟨k.length - (d + 1), by omega⟩
     rw [h1, he, h2, memTo_succ, if_pos h]
     exact ⟨_, rfl⟩)
    have hal : Below wr.heap.size wr (wr.alloc (.cells #[.slice x n1 c1, .slice y n2 c2] 39)) := (Below.refl _ _).alloc (Nat.le_refl _) _
    have hg := HG.out _ (nthF_mem hdk)
    have hC := Lib.hid (has_any x n1 c1 t (nthF k d).1 _ (hI.below hal) hg.1 (by rw [← hI.len]; exact hg.2))
    have Hal := Lib.hid hal
    have hz1 : (wr.alloc (.cells #[.slice x n1 c1, .slice y n2 c2] 39)).cell? ⟨bt, 0, none⟩ = some (.int .u64 t) := box_cell (row_old hrt)
    have Hb := Lib.hid hb; have Hrt := Lib.hid hrt; have Hj := Lib.hid hj; have Hpre := Lib.hid hpre; have Hsl := Lib.hid hsl
    have h0d : (0 : Int) ≤ d := by omega
    have h04 : (d : Int) < (m : Int) := by omega
    clear hb hrt hj hpre hsl hq hI hV hinv hal hg
    generalize mem (nthF k d).1 t = b at *
    gi_wp2_with fail
    refine ⟨fun h => (by cases h), (callsIn_wide.2 hC.out).mono ?_⟩
    rintro e w1 ⟨rfl, hb1⟩
    have Hb1 := Lib.hid hb1; clear hb1 hz1 q1 q2
    have Hw1 := Lib.hid (Hal.out.trans (Hb1.out.mono Hal.out.size))
    have Hb1w := Lib.hid (Hb.out.trans (Hw1.out.mono Hb.out.size))
    have Hrt1 := Lib.hid ((Hw1.out.block _ (Array.getElem?_eq_some_iff.1 Hrt.out).1).trans Hrt.out)
    have Hj1 := Lib.hid (HJ.out _ _ _ Hj.out Hw1.out)
    obtain ⟨f0, f1⟩ := box2' wr (.slice x n1 c1) (.slice y n2 c2) 39 w1 Hb1.out
    cases b with
    | false =>
     rw [if_neg (by simp), List.append_nil] at Hst
     gi_wp2
     go_roundw
     case rel => exact ⟨d + 1, by omega, by go_num, Hb1w.out, Hrt1.out, pre, Hj1.out, by rw [Hst.out]; exact Hpre.out, Hsl.out⟩
     case measure => simp [intOf]; omega
    | true =>
     rw [if_pos rfl] at Hst
     have hmm := Hmem.out rfl
     obtain ⟨rest, hrest⟩ := hmm
     have hV : (∃ rest, membersK k t = (pre ++ [((d, .slice x n1 c1, .slice y n2 c2) : WEl)]).map (·.1) ++ rest) ∧ ∀ x' ∈ pre ++ [((d, .slice x n1 c1, .slice y n2 c2) : WEl)], SlOf w0 k x' := by
      refine ⟨⟨rest, by rw [hrest, Hpre.out, List.map_append]; rfl⟩, fun x' hx' => ?_⟩
      rcases List.mem_append.1 hx' with h | h
      · exact Hsl.out x' h
      · rw [List.mem_singleton] at h; rw [h]; exact Hsl0.out
     have HV := Lib.hid hV
     obtain ⟨fn, tmps, assign, body, hy, hR⟩ := HY.out pre (d, .slice x n1 c1, .slice y n2 c2) w1 hV Hj1.out
     simp only [wEnc] at hy
     clear hV hrest
     gi_wp2
     first | refine hR.mono ?_ | refine ⟨fun h => (by cases h), hR.mono ?_⟩
     rintro e W3 (⟨rfl, hJ3, hk3⟩ | ⟨rfl, hJx3⟩)
     · have H3 := Lib.hid (show Below w0.heap.size w0 W3 ∧ W3.heap[bt]? = some (.cells #[.int .u64 t] 24) ∧ ∃ pre, J pre W3 ∧ memTo k t (d + 1) = pre.map (·.1) ∧ ∀ x ∈ pre, SlOf w0 k x from
        ⟨Hb1w.out.trans (hk3.toBelow (fun k hk => .inl hk) Hb1w.out.size), (hk3.row _ (Array.getElem?_eq_some_iff.1 Hrt1.out).1 (.inr (.inr rfl))).trans Hrt1.out, _, hJ3, by rw [Hst.out, Hpre.out, List.map_append]; rfl, HV.out.2⟩)
       clear hJ3 hk3 hy hR f0 f1
       gi_wp2
       go_roundw
       case rel => exact ⟨d + 1, by omega, by go_num, H3.out⟩
       case measure => simp [intOf]; omega
     · have HX := Lib.hid (show ∃ pre, ((∃ rest, membersK k t = pre.map (·.1) ++ rest) ∧ ∀ x ∈ pre, SlOf w0 k x) ∧ Jx pre W3 from ⟨_, HV.out, hJx3⟩)
       clear hJx3 hy hR f0 f1
       gi_wp2
       go_wp2
       refine bodyPost_ret (results_none rfl _ _ _) rfl ?_
       exact ⟨⟨_, rfl⟩, .inr HX.out⟩
  · obtain rfl : d = m := by omega
    have HF := Lib.hid (show ∃ xs, (membersK k t = xs.map (·.1) ∧ ∀ x ∈ xs, SlOf w0 k x) ∧ J xs wr from ⟨pre, ⟨by rw [← hpre, ← Hl.out]; rfl, hsl⟩, hj⟩)
    clear hb hrt hj hpre hsl hinv
    gi_wp2
    refine bodyPost_end (results_none rfl _ _ _) rfl ?_
    exact ⟨⟨_, rfl⟩, .inl HF.out⟩
end
section
open Go.RowKit Go.Shelf
attribute [local go_sem] Oper.semAt_some wide_fn
theorem members1_any (B : Nat) (y : Value) (xs : List Nat) (i : Nat) (s1 s2 : Value) (w : World) (ho : w.ownsRow B 3 1 y xs.length (i64C xs)) (hB : B ≤ w.heap.size) (hn : xs.length ≤ 1000) :
 Calls Tryz.prog 192 #[y, .int .i64 ((i : Nat) : Int), .agg #[s1, s2]] w fun e w' => (∃ v, e = .returned v ∧ w'.ownsRow B 3 1 v (xs ++ [i]).length (i64C (xs ++ [i]))) ∧ Below B w w' := by
 have hal : Below w.heap.size w (w.alloc (.cells #[s1, s2] 39)) := (Below.refl _ _).alloc (Nat.le_refl _) _
 have Ho := Lib.hid (own_below ho hal)
 have Hal := Lib.hid (hal.mono hB)
 have Hlt := Lib.hid ((own_below ho hal).lt)
 obtain ⟨ao, co, rfl⟩ := own_slice ho
 clear ho hal
 go_enter Tryz.func192, Tryz.ntmps192
 go_wp2_with (at_builtin; refine wpList_append_i64 rfl (.tmp 7) (.tmp 9) rfl rfl B _ _ xs rfl (Ho.out.alloc _) _ 1 _ [i] rfl (rd_block (heap_at_new _ _ _ (by simp)) rfl rfl) (by omega) (by simp; omega) ?_; intro v' w8 ho8 hg8)
 go_ret
 refine ⟨⟨v', rfl, ?_⟩, Below.grown (B := B) (Hal.out.alloc (by simp; omega) _) hg8 (by simp; omega) (fun k hk => (Hlt.out k hk).1)⟩
 rw [List.length_append]
 exact ho8
set_option maxRecDepth 20000 in
set_option maxHeartbeats 4000000 in
theorem foldMem_any (w0 w : World) (bk bt : Nat) (a : Option Addr) (m c t : Nat) (k : Kno) (hE : Frags w0 a m c k) (hG : ∀ f ∈ k, Good f.1 ∧ f.1.length ≤ 1000000) (hb0 : Below w0.heap.size w0 w) (hm : m ≤ 500)
 (hbk : w.heap[bk]? = some (.cells #[.slice a m c] 23)) (hbt : w.heap[bt]? = some (.cells #[.int .u64 t] 24)) :
 Calls Tryz.prog 191 #[.func (.func 193) #[] #[.pointer (some ⟨bk, 0, none⟩), .pointer (some ⟨bt, 0, none⟩)], .slice none 0 0, .func (.func 192) #[] #[]] w fun e w' =>
  (∃ y, e = .returned y ∧ w'.ownsRow w.heap.size 3 1 y (membersK k t).length (i64C (membersK k t))) ∧ Below w.heap.size w w' := by
 have Hml := Lib.hid (show (membersK k t).length ≤ 500 from by
  have := memTo_len k t k.length
  have h2 : membersK k t = memTo k t k.length := rfl
  rw [h2]
  have := hE.len
  omega)
 have hbkl := (Array.getElem?_eq_some_iff.1 hbk).1
 have hbtl := (Array.getElem?_eq_some_iff.1 hbt).1
 have hs0 := hb0.size
 refine (callsIn_wide (n := 3)).1 ?_
 refine callsIn_of_wp_marks Tryz.func191 rfl trivial ?_ rfl
 simp only [Tryz.ntmps191, List.size_toArray, List.length_cons, List.length_nil, Nat.reduceAdd, Nat.reduceSub, Array.replicate_succ, Array.replicate_zero, List.push_toArray, List.append_toArray, List.nil_append, List.cons_append]
 refine wpIn_wide.2 ?_
 go_wp2
 refine (wpIn_wide (n := 3)).1 ?_
 obtain ⟨C0, hC0⟩ : ∃ C0 : Obj, C0 = .cells #[.slice none 0 0] 29 := ⟨_, rfl⟩
 obtain ⟨C1, hC1⟩ : ∃ C1 : Obj, C1 = .cells #[.func (.func 192) #[] #[]] 246 := ⟨_, rfl⟩
 rw [← hC0, ← hC1]
 obtain ⟨wl, hwl⟩ : ∃ wl : World, wl = (w.alloc C0).alloc C1 := ⟨_, rfl⟩
 rw [← hwl]
 have hsz : wl.heap.size = w.heap.size + 2 := by rw [hwl]; simp
 have hbw : Below w.heap.size w wl := by
  rw [hwl]
  exact ((Below.refl _ w).alloc (Nat.le_refl _) C0).alloc (by simp) C1
 have e0 : wl.heap[w.heap.size]? = some C0 := by rw [hwl]; exact row_old (row_new rfl)
 have e1 : wl.heap[w.heap.size + 1]? = some C1 := by rw [hwl]; exact row_new (by simp)
 clear hwl
 refine wp_range (n := 3) (gf := 193) (lb := #[.pointer (some ⟨bk, 0, none⟩), .pointer (some ⟨bt, 0, none⟩)]) rfl (enters_of Tryz.func193 (by kernel_rfl) rfl)
  (with_seq (3 - 1) w0 wl bk bt a m c t k hE hG (hb0.trans (hbw.mono hs0)) hm ((hbw.block _ hbkl).trans hbk) ((hbw.block _ hbtl).trans hbt))
  (fun x => rfl) (fun k hk => hk.elim) (fun k hk => by omega)
  (fun pre W => Below w.heap.size w W ∧ W.heap[w.heap.size + 1]? = some C1 ∧ ∃ v, W.heap[w.heap.size]? = some (.cells #[v] 29) ∧ W.ownsRow (w.heap.size + 4) 3 1 v (pre.map (·.1)).length (i64C (pre.map (·.1))))
  (fun _ _ _ => False) ?hI (fun _ _ _ _ h _ => h) ⟨hbw, e1, .slice none 0 0, by rw [e0, hC0], World.ownsRow_nil ..⟩ ?round ?done ?stop
 case hI =>
  rintro s A B ⟨h4, h1, v, h2, h3⟩ hk
  have hs := h4.size
  exact ⟨h4.trans (hk.toBelow (fun k hk' => ⟨id, by omega, by omega⟩) (by omega)), (hk.row _ (Array.getElem?_eq_some_iff.1 h1).1 ⟨id, by omega, by omega⟩).trans h1, v, (hk.row _ (Array.getElem?_eq_some_iff.1 h2).1 ⟨id, by omega, by omega⟩).trans h2, own_same h3 (fun k hk1 hk2 => hk.row k hk2 ⟨id, by omega, by omega⟩)⟩
 case round =>
  rintro pre ⟨i, s1, s2⟩ W ⟨⟨rest, hV⟩, hsl⟩ ⟨h4, h1, y, h2, h3⟩ hsW
  obtain ⟨⟨a1, n1, z1, e1', -⟩, a2, n2, z2, e2', -⟩ := hsl (i, s1, s2) (by simp)
  simp only at e1' e2'
  subst e1' e2'
  clear hsl
  rw [hsz] at hsW ⊢
  have hlen : (pre.map (·.1)).length + 1 ≤ 500 := by
   have := Hml.out
   rw [hV, List.length_append, List.map_append, List.length_append] at this
   simp at this ⊢
   omega
  clear hsz hbw e0 e1 hC0 hV hE hG hbk hbt hb0
  simp only [wEnc]
  obtain ⟨q, hq⟩ : ∃ q : Nat, q = W.heap.size := ⟨_, rfl⟩
  gi_wp2
  refine ⟨(Kept.refl _ W).alloc _, fun W2 hk2 hs2 => ?_⟩
  try rw [World.size_alloc] at hs2
  have k1 : Kept (fun k => k ≠ w.heap.size + 2 + 1) W W2 := ((Kept.refl _ W).alloc _).trans hk2
  have b1 : W2.heap[w.heap.size + 1]? = some C1 := (k1.row _ (Array.getElem?_eq_some_iff.1 h1).1 (by omega)).trans h1
  have b2 : W2.heap[w.heap.size]? = some (.cells #[y] 29) := (k1.row _ (Array.getElem?_eq_some_iff.1 h2).1 (by omega)).trans h2
  have b4 : W2.heap[q]? = some (.cells #[.slice a1 n1 z1, .slice a2 n2 z2] 39) := by rw [hq]; exact (hk2.row _ (by simp) (by omega)).trans (row_new rfl)
  have B3 := Lib.hid (own_same h3 (fun k hk1 hk2 => k1.row k hk2 (by omega)))
  have B4 := Lib.hid (h4.trans (k1.toBelow (n := w.heap.size) (fun k hk' => by omega) h4.size))
  rw [← hq]
  have hB4 : w.heap.size + 4 ≤ W2.heap.size := by omega
  have Hb1 := Lib.hid b1; have Hb2 := Lib.hid b2
  rw [hC1] at b1
  have c0 := box_cell b1
  have c1 := box_cell b2
  have c2 : W2.cell? ⟨q, 0, none⟩ = some (.slice a1 n1 z1) := cells_cell (i := 0) b4 rfl
  have c3 : W2.cell? ⟨q, 1, none⟩ = some (.slice a2 n2 z2) := cells_cell (i := 1) b4 rfl
  have HC1 := Lib.hid hC1
  clear k1 hk2 hs2 h1 h2 h3 h4 b1 b2 b4 hq hsW hC1
  have hF := Lib.hid (members1_any (w.heap.size + 4) y (pre.map (·.1)) i (.slice a1 n1 z1) (.slice a2 n2 z2) W2 B3.out hB4 (by omega))
  gi_wp2_with fail
  refine (CallsIn.inRound _ (callsIn_wide.2 hF.out)).mono ?_
  rintro e w3 ⟨⟨v, rfl, ho3⟩, hb3⟩
  have d2 := (hb3.block _ (by omega)).trans Hb2.out
  have d1 := (hb3.block _ (by omega)).trans Hb1.out
  have q5 := box_cell d2
  have q6 := box_frozen d2
  have Hd2 := Lib.hid d2; have Hd1 := Lib.hid d1; have Ho3 := Lib.hid ho3; have Hb3 := Lib.hid hb3
  obtain ⟨av, cv, rfl⟩ := own_slice ho3
  clear c0 c1 c2 c3 d1 d2 ho3 hb3
  gi_wp2
  refine ⟨?_, ?_, ?_, _, box_set Hd2.out, ?_⟩
  · exact ((kept_of_below Hb3.out).mono (fun k _ hk => by omega)).setCell (fun _ => by simp only; omega) _
  · exact (B4.out.trans (Hb3.out.mono (by omega))).setCell (Nat.le_refl _) _
  · have h := Hd1.out
    rw [HC1.out] at h
    exact (Below.heap_setCell _ _ _ _ (by simp)).trans h
  · have h := own_same Ho3.out (w' := w3.setCell ⟨w.heap.size, 0, none⟩ (.slice av (pre.map (·.1) ++ [i]).length cv)) (fun k hk1 hk2 => Below.heap_setCell _ _ _ _ (by simp only; omega))
    simpa using h
 case done =>
  rintro ps W ⟨hS, -⟩ ⟨h4, h1, y, h2, h3⟩ hK
  have q1 := box_cell h2
  rw [← hS] at h3
  have H3 := Lib.hid h3; have H4 := Lib.hid h4
  clear h1 h2 h3 h4 e0 e1 hS
  gi_wp2
  go_wp2
  refine ⟨by simp, .inl ⟨_, _, rfl, run_takeDeferred hK, ?_⟩⟩
  refine ⟨_, results_tmp rfl _ _ _, ⟨y, rfl, ?_⟩, ?_⟩
  · refine own_mono (own_same H3.out (fun k hk1 hk2 => World.putObj_heap_other (by omega))) (by omega)
  · exact (Kept.refl (fun k => k < w.heap.size) W).putObj (fun _ h => by have h' : wl.heap.size < w.heap.size := h; omega) _ |>.toBelow (fun _ h => h) H4.out.size |> H4.out.trans
 case stop =>
  rintro c pre W hV h
  exact h.elim
theorem scoMembers_any (a : Option Addr) (m c t : Nat) (k : Kno) (w : World) (hE : Frags w a m c k) (hG : ∀ f ∈ k, Good f.1 ∧ f.1.length ≤ 1000000) (hm : m ≤ 500) :
 Calls Tryz.prog 157 #[.slice a m c, .int .u64 t] w fun e w' =>
  (∃ y, e = .returned y ∧ w'.ownsRow w.heap.size 3 1 y (membersK k t).length (i64C (membersK k t))) ∧ Below w.heap.size w w' := by
 have hal : Below w.heap.size w ((w.alloc (.cells #[.slice a m c] 23)).alloc (.cells #[.int .u64 t] 24)) := ((Below.refl _ _).alloc (Nat.le_refl _) _).alloc (by simp) _
 have hC := Lib.hid (foldMem_any w ((w.alloc (.cells #[.slice a m c] 23)).alloc (.cells #[.int .u64 t] 24)) w.heap.size (w.heap.size + 1) a m c t k hE hG hal hm (row_old (row_new rfl)) (row_new (by simp)))
 have Hal := Lib.hid hal
 clear hE hG hal
 go_enter Tryz.func157, Tryz.ntmps157
 go_wp2_with fail
 refine (with_any a m c t _).mono ?_
 rintro e w1 ⟨rfl, rfl⟩
 go_wp2_with fail
 refine hC.out.mono ?_
 rintro e w2 ⟨⟨y, rfl, ho⟩, hb⟩
 have Ho := Lib.hid ho; have Hb := Lib.hid hb
 clear ho hb
 go_wp2
 go_ret
 exact ⟨⟨y, rfl, own_mono Ho.out Hal.out.size⟩, Hal.out.trans (Hb.out.mono Hal.out.size)⟩
end
end Go.Proofs.YtkkdlgcfcbaibaaGreatDoor
