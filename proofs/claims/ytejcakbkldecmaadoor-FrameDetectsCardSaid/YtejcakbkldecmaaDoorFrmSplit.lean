/-
  Walk: frame.Split.
-/
import Derived.Test.YtejcakbkldecmaaDoorFrmHead2
import Derived.Test.YtejcakbkldecmaaDoorCrcAppend
import Derived.Test.YtejcakbkldecmaaDoorKEqual
import Derived.Deep.RegionWith
import Derived.Deep.Onto
namespace Go.Proofs.YtejcakbkldecmaaDoor
open Go.RowKit
set_option linter.unusedVariables false

/-- The payload, the index behind the frame, the error. -/
def splitRes (l : List Nat) (p : Nat) (most : Int) : List Nat × Nat × Err :=
  match headRes l p most with
  | (_, _, some e) => ([], 0, some e)
  | (s, k, none) =>
    if l.length - s < k ∨ l.length - s - k < 4 then ([], 0, some (5, some (p : Int)))
    else if sumBytes (sum ((l.drop s).take k)) = (l.drop (s + k)).take 4 then ((l.drop s).take k, s + k + 4, none)
    else ([], 0, some (14, some ((s + k : Nat) : Int)))

theorem headRes_le {l : List Nat} {p : Nat} {most : Int} (hp : p ≤ l.length) : (headRes l p most).1 ≤ l.length := by
  unfold headRes
  split
  · show 0 ≤ _; omega
  · rename_i hh
    have h5 : p + 5 ≤ l.length := by
      by_cases h : l.length ≤ p + 4
      · exfalso
        have h4 : headAt l p 4 = some (5, p) := headAt_short h
        unfold headBad at hh
        rw [List.findSome?_eq_none_iff] at hh
        have := hh 4 (by simp)
        rw [h4] at this
        cases this
      · omega
    have hj := scan_len (l.drop (p + 5)) 0 0
    rw [List.length_drop] at hj
    split
    · rename_i x j hs
      rw [hs] at hj
      have hj' : j ≤ 0 + (l.length - (p + 5)) := hj
      split
      · show 0 ≤ _; omega
      · show p + 5 + j ≤ _; omega
    · show 0 ≤ _; omega
    · show 0 ≤ _; omega

theorem Byts.sub {w : World} {b o n cap : Nat} {l : List Nat} (h : Byts w (some ⟨b, o, none⟩) n cap l) (i j : Nat) (hij : i ≤ j) (hj : j ≤ n) (hi : i < cap) :
    Byts w (some ⟨b, o + i, none⟩) (j - i) (cap - i) ((l.drop i).take (j - i)) := by
  refine ⟨?_, ?_, ?_, ?_, (by intro h; cases h), fun hn => ⟨b, o + i, rfl, fun k hk => ?_⟩⟩
  · rw [List.length_take, List.length_drop, h.len]; omega
  · intro x hx; exact h.lt x (List.mem_of_mem_drop (List.mem_of_mem_take hx))
  · have := h.room; omega
  · have := h.most; omega
  · obtain ⟨b', o', e, hc⟩ := h.cells (by omega)
    cases e
    have := hc (i + k) (by omega)
    rw [← Nat.add_assoc] at this
    rw [this]
    have e : nth ((l.drop i).take (j - i)) k = nth l (i + k) := by simp [nth, hk]
    rw [e]


theorem headRes_none {l : List Nat} {p : Nat} {most : Int} {s k : Nat} (hp : p ≤ l.length) (hm1 : most ≤ 9223372036854775807) (h : headRes l p most = (s, k, none)) : s ≤ l.length ∧ 0 < l.length ∧ k ≤ 9223372036854775807 := by
  have h1 := headRes_le (most := most) hp
  rw [h] at h1
  refine ⟨h1, ?_, ?_⟩
  · refine Nat.pos_of_ne_zero (fun h0 => ?_)
    have hb : headBad l p = some (5, p) := headBad_at (i := 0) (by omega) (fun j hj => by omega) (headAt_short (by omega))
    rw [headRes_bad hb] at h
    cases h
  · unfold headRes at h
    split at h
    · cases h
    · split at h
      · rename_i x j hs
        split at h
        · cases h
        · cases h
          omega
      · cases h
      · cases h

theorem belowdrewN {B : Nat} {a w : World} (h : Below B a w) (q : Nat) : Below B a (w.drewN q) := ⟨h.os, h.tape, h.output, h.size, h.block⟩

theorem wrapeq (x : Int) : IntKind.i64.wrap x = wrap64 x := by rw [IntKind.wrap_i64]; unfold wrap64; omega

theorem wrap_in (n : Int) (h : -9223372036854775808 ≤ n ∧ n ≤ 9223372036854775807) : wrap64 n = n := by unfold wrap64; omega

theorem sumlt {l : List Nat} (h : ∀ x ∈ l, x < 256) : sum l < 4294967296 := not_lt (reg_lt (by omega) h)

theorem sub_wrap {n s k : Nat} (hk : k ≤ 9223372036854775807) (hn : n ≤ 100000) : wrap64 (((n - s : Nat) : Int) - (k : Int)) = ((n - s : Nat) : Int) - (k : Int) := by
  exact wrap_in _ ⟨by omega, by omega⟩

theorem short_cond {n s k : Nat} (hk : k ≤ 9223372036854775807) (hn : n ≤ 100000) (r : Bool) (h : r = decide (n - s < k ∨ n - s - k < 4)) : (decide (n - s < k) || decide (wrap64 (((n - s : Nat) : Int) - (k : Int)) < 4)) = r := by
  rw [sub_wrap hk hn, h, ← Bool.decide_or]
  apply decide_eq_decide.2
  omega

set_option maxHeartbeats 1000000 in
theorem split_err (a : Option Addr) (n cap p : Nat) (most : Int) (l : List Nat) (w : World) (s k : Nat) (c : Int × Option Int) (hh : headRes l p most = (s, k, some c)) (hD : Door w) (hB : Byts w a n cap l) (hp : p ≤ n) (hn : n ≤ 100000) (hm0 : -9223372036854775808 ≤ most) (hm1 : most ≤ 9223372036854775807) :
    Calls Tryd.prog 11 #[.slice a n cap, .int .i64 p, .int .i64 most] w fun e w' =>
      e = .returned (.tuple #[.slice none 0 0, .int .i64 0, errVal (some c)]) ∧ Below w.heap.size w w' := by
  have Hh := Lib.hid (header_any a n cap p most l w hD hB hp hn hm0 hm1)
  rw [hh] at Hh
  clear hh hD hB hm0 hm1
  rcases c with ⟨c, _ | ca⟩ <;>
    · simp only [errVal] at Hh ⊢
      go_enter Tryd.func11, Tryd.ntmps11
      go_wp2_with fail
      refine Hh.out.mono ?_
      rintro e w1 ⟨rfl, hb1⟩
      go_wp2_with fail
      go_ret3
      exact ⟨rfl, hb1⟩

set_option maxHeartbeats 1000000 in
theorem split_short (b o : Nat) (n cap p : Nat) (most : Int) (l : List Nat) (w : World) (s k : Nat) (hh : headRes l p most = (s, k, none)) (h0 : 0 < n) (hs : s ≤ n) (hk : k ≤ 9223372036854775807) (hbad : n - s < k ∨ n - s - k < 4) (hD : Door w) (hB : Byts w (some ⟨b, o, none⟩) n cap l) (hp : p ≤ n) (hn : n ≤ 100000) (hm0 : -9223372036854775808 ≤ most) (hm1 : most ≤ 9223372036854775807) :
    Calls Tryd.prog 11 #[.slice (some ⟨b, o, none⟩) n cap, .int .i64 p, .int .i64 most] w fun e w' =>
      e = .returned (.tuple #[.slice none 0 0, .int .i64 0, errVal (errNew 5 p)]) ∧ Below w.heap.size w w' := by
  have Hh := Lib.hid (header_any _ n cap p most l w hD hB hp hn hm0 hm1)
  rw [hh] at Hh
  have hnc := hB.room
  have Hcm := Lib.hid hB.most
  have hcond := short_cond hk hn true (decide_eq_true hbad).symm
  clear hk hbad
  clear hh hD hB hm0 hm1
  simp only [errVal] at Hh
  have Hn := Lib.hid hn; clear hn
  go_enter Tryd.func11, Tryd.ntmps11
  go_wp2_with fail
  refine Hh.out.mono ?_
  rintro e w1 ⟨rfl, hb1⟩
  go_wp2_with fail
  all_goals
    refine (new_any 5 _ _).mono ?_
    rintro e w' ⟨rfl, rfl⟩
    go_wp2_with fail
    go_ret3
    exact ⟨rfl, hb1⟩

set_option maxHeartbeats 2000000 in
theorem split_full (b o : Nat) (n cap p : Nat) (most : Int) (l : List Nat) (w : World) (s k : Nat) (hh : headRes l p most = (s, k, none)) (hfit : s + k + 4 ≤ n) (hD : Door w) (hB : Byts w (some ⟨b, o, none⟩) n cap l) (hp : p ≤ n) (hn : n ≤ 100000) (hm0 : -9223372036854775808 ≤ most) (hm1 : most ≤ 9223372036854775807)
    (r : Bool) (hr : r = decide (sumBytes (sum ((l.drop s).take k)) = (l.drop (s + k)).take 4)) :
    Calls Tryd.prog 11 #[.slice (some ⟨b, o, none⟩) n cap, .int .i64 p, .int .i64 most] w fun e w' =>
      (∃ v, e = .returned (.tuple #[v, .int .i64 (if r = true then ((s + k + 4 : Nat) : Int) else 0), errVal (if r = true then none else errNew 14 ((s + k : Nat) : Int))])
        ∧ (r = true → w'.ownsRow w.heap.size 5 1 v k (u8s ((l.drop s).take k))) ∧ (r = false → v = .slice none 0 0)) ∧ Below w.heap.size w w' := by
  have Hh := Lib.hid (header_any _ n cap p most l w hD hB hp hn hm0 hm1)
  rw [hh] at Hh
  have hnc := hB.room
  have Hcm := Lib.hid hB.most
  have hcond := short_cond (n := n) (s := s) (k := k) (by omega) hn false (by rw [eq_comm, decide_eq_false_iff_not]; omega)
  have hs : s ≤ n := by omega
  have hkn : k ≤ n := by omega
  have hk1 : k ≤ cap - s := by omega
  have hk2 : k + 4 ≤ cap - s := by omega
  have hx0 : Byts w (some ⟨b, o + s, none⟩) (k - 0) (cap - s) ((l.drop s).take k) := by
    have := hB.sub s (s + k) (by omega) (by omega) (by omega)
    rw [show s + k - s = k by omega] at this
    exact this
  have hy0 : Byts w (some ⟨b, o + s + k, none⟩) (k + 4 - k) (cap - s - k) ((l.drop (s + k)).take 4) := by
    have := hB.sub (s + k) (s + k + 4) (by omega) (by omega) (by omega)
    rw [show s + k + 4 - (s + k) = 4 by omega] at this
    rw [show k + 4 - k = 4 by omega, show cap - s - k = cap - (s + k) by omega, Nat.add_assoc]
    exact this
  have Hx := Lib.hid hx0; have Hy := Lib.hid hy0; have Hr := Lib.hid hr
  have Hlt := Lib.hid hx0.lt
  clear hh hD hB hm0 hm1 hx0 hy0 hr
  simp only [errVal] at Hh
  have Hn := Lib.hid hn; clear hn
  go_enter Tryd.func11, Tryd.ntmps11
  go_wp2_with fail
  refine Hh.out.mono ?_
  rintro e w1 ⟨rfl, hb1⟩
  obtain ⟨k4, hk4⟩ : ∃ k4 : Nat, k4 = k + 4 := ⟨_, rfl⟩
  have hadd : IntKind.i64.wrap ((k : Int) + 4) = ((k4 : Nat) : Int) := by
    rw [wrapeq, wrap_in _ ⟨by omega, by have := Hn.out; omega⟩, hk4]; rfl
  have E1 := Lib.hid (show wrap64 ((s : Int) + (k : Int)) = ((s + k : Nat) : Int) from by rw [wrap_in _ ⟨by omega, by have := Hn.out; omega⟩]; rfl)
  have E2 := Lib.hid (show wrap64 (((s + k : Nat) : Int) + 4) = ((s + k + 4 : Nat) : Int) from by rw [wrap_in _ ⟨by omega, by have := Hn.out; omega⟩]; rfl)
  rw [← hk4] at hk2 Hy
  have hkk : k ≤ k4 := by omega
  have hne : ¬ cap - s = k := by omega
  have Hk4 := Lib.hid hk4; clear hk4
  go_wp2_with fail
  go_region_with (first
    | (go_at_call 21; refine (sum_any _ _ _ _ _ (Hx.out.below hb1.drew)).mono ?_; rintro e w2 ⟨rfl, hb2⟩; have Hb2 := Lib.hid ((hb1.drew).trans (hb2.mono hb1.drew.size)); clear hb2)
    | (go_at_call 20; refine (append_any (.slice none 0 0) 0 w.heap.size [] _ _ (sumlt Hlt.out) (World.ownsRow_nil _ _ _ _) Hb2.out.size (by omega)).mono ?_; rintro e w3 ⟨v3, rfl, ho3, hg3⟩; have Hb3 := Lib.hid (below_of_grown_none Hb2.out hg3); clear hg3; obtain ⟨a3, c3, rfl, hB3⟩ := byts_own (l := sumBytes (sum ((l.drop s).take k))) ho3 (sumBytes_lt (sumlt Hlt.out)); have HB3 := Lib.hid hB3; clear hB3 ho3)
    | (go_at_call 10; refine (equal_any _ _ _ _ _ _ _ _ _ HB3.out (Hy.out.below Hb3.out) r Hr.out).mono ?_; rintro e w4 ⟨rfl, q, rfl⟩; have Hb4 := Lib.hid (belowdrewN Hb3.out q)))
  clear hb1
  cases r
  · go_wp2_with fail
    refine (new_any 14 _ _).mono ?_
    rintro e w' ⟨rfl, rfl⟩
    go_wp2_with fail
    go_ret3
    refine ⟨?_, belowdrewN Hb3.out _⟩
    show Ending.returned (.tuple #[.slice none 0 0, .int .i64 0, errVal (errNew 14 (wrap64 ((s : Int) + (k : Int))))]) = _
    rw [E1.out]
    rfl
  · go_wp2_with fail
    refine (clone_any _ _ _ _ _ (Hx.out.below (belowdrewN Hb3.out _)) (by have := Hn.out; omega)).mono ?_
    rintro e w' ⟨⟨v', rfl, ho⟩, hb5⟩
    go_wp2_with fail
    go_ret3
    refine ⟨⟨v', ?_, ho.mono Hb3.out.size⟩, (belowdrewN Hb3.out _).trans (hb5.mono Hb3.out.size)⟩
    show Ending.returned (.tuple #[v', .int .i64 (wrap64 (wrap64 ((s : Int) + (k : Int)) + 4)), .nilIface]) = _
    rw [E1.out, E2.out]
    rfl

end Go.Proofs.YtejcakbkldecmaaDoor
