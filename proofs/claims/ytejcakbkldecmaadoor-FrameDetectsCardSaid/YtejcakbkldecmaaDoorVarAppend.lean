/-
  Walks: varint.Size, varint.Append onto a slice of the caller's own; kenningref16.Bytes.
-/
import Derived.Test.YtejcakbkldecmaaDoorVarPlain
import Derived.Test.YtejcakbkldecmaaDoorKBase
import Derived.Test.YtejcakbkldecmaaDoorLib
namespace Go.Proofs.YtejcakbkldecmaaDoor
open Go.RowKit
set_option linter.unusedVariables false

set_option maxHeartbeats 400000 in
theorem size_any (x : Nat) (w : World) (hx : x < 18446744073709551616) :
    Calls Tryd.prog 32 #[.int .u64 x] w fun e w' => e = .returned (.int .i64 ((vbytes x).length : Nat)) ∧ w = w' := by
  have Hs := Lib.hid (vbytes_size hx)
  have hb := Lib.bitLen_le x 64 (by omega) (by simpa using hx)
  go_enter Tryd.func32, Tryd.ntmps32
  go_wp2_with fail
  refine (Tryd.bits_Len64 x w (by omega) (by omega)).mono ?_
  rintro e w' ⟨rfl, rfl⟩
  rw [Int.toNat_natCast]
  generalize Lib.bitLen x = b at *
  go_wp2_with fail
  go_ret
  exact ⟨ret_int (by rw [← Hs.out]; omega), rfl⟩

theorem vbF_bits (x : Nat) (hx : x < 18446744073709551616) : bits .or .u8 ((x : Int) % 256) 128 = ((x % 128 + 128 : Nat) : Int) := by
  have h := or128 (x % 256) (by omega)
  rw [show ((x % 256 : Nat) : Int) = (x : Int) % 256 from by omega] at h
  rw [h]
  congr 1
  omega

set_option maxHeartbeats 1000000 in
theorem vappend_any (v : Value) (n base : Nat) (xs : List Value) (x : Nat) (w : World) (hx : x < 18446744073709551616) (hown : w.ownsRow base 5 1 v n xs) (hbase : base ≤ w.heap.size) (hn : n ≤ 140737488355000) :
   Calls Tryd.prog 19 #[v, .int .u64 x] w fun e w' => ∃ v', e = .returned v' ∧ w'.ownsRow base 5 1 v' (n + (vbytes x).length) (xs ++ u8s (vbytes x)) ∧ Below base w w' := by
  have hlen := vbF_len_le 9 x
  have hpos := vbF_pos 9 x
  have Ho := Lib.hid hown; clear hown
  have Hx := Lib.hid hx; clear hx
  go_enter Tryd.func19, Tryd.ntmps19
  go_wp2_with fail
  refine (size_any x w Hx.out).mono ?_
  rintro e w' ⟨rfl, rfl⟩
  rw [vbytes_eq]
  generalize hL : (vbF 9 x).length = L at *
  have HL := Lib.hid hL; clear hL
  go_wp2_with fail
  go_loopw [0, 1, 8] (fun v y i wr => ∃ j m k : Nat, j + 1 ≤ L ∧ i = .int .i64 j ∧ y = .int .u64 m ∧ Hid (m < 18446744073709551616) ∧ Below base w wr ∧ base ≤ wr.heap.size ∧ j + (vbF k m).length = L ∧
      Hid (∃ p : List Nat, p.length = j ∧ vbF 9 x = p ++ vbF k m ∧ wr.ownsRow base 5 1 v (n + j) (xs ++ u8s p))) (fun _ _ i _ => L - (intOf i).toNat)
  case atStart => exact ⟨0, x, 9, by omega, rfl, rfl, Hx.out, Below.refl _ _, hbase, by rw [HL.out]; omega, [], rfl, rfl, by have := Ho.out; simpa [u8s] using this⟩
  case round =>
    obtain ⟨j, m, k, hj, rfl, rfl, hm, hb, hbs, hjl, hp⟩ := hrel
    by_cases hjL : j < L - 1
    · have hlt : decide ((j : Int) < (L : Int) - 1) = true := by rw [decide_eq_true_iff]; omega
      obtain ⟨k', rfl, h128, hcons⟩ := vbF_more (k := k) (x := m) (by omega)
      obtain ⟨p, hpl, hpx, hpo⟩ := hp.out
      have Hpo := Lib.hid hpo; clear hpo
      have Hcons := Lib.hid hcons; clear hcons
      have Hjl := Lib.hid hjl; clear hjl
      have Hpl := Lib.hid hpl; clear hpl
      have Hpx := Lib.hid hpx; clear hpx
      have hbit := vbF_bits m hm.out
      have hq256 : m % 128 + 128 < 256 := by omega
      generalize m % 128 + 128 = q at *
      obtain ⟨v', w1, hr, ho1, hg1⟩ := run_append_byts base _ (n + j) _ (Hpo.out.alloc (.cells #[.int .u8 (q : Int)] 5)) (some ⟨wr.heap.size, 0, none⟩) 1 1 [q] (byts_lit _ _ 1 _ [q] _ _ rfl rfl rfl (by intro x hx; simp at hx; omega) (by omega)) (by omega) (by simp only [World.size_alloc]; omega)
      have Ho1 := Lib.hid ho1; clear ho1
      have hb1 : Below base w w1 := (hb.alloc hbs _).grown hg1 (by simp only [World.size_alloc]; omega) (fun k hk => (Hpo.out.lt k hk).1)
      have hs1 : base ≤ w1.heap.size := by have := hg1.size; simp only [World.size_alloc] at this; omega
      clear hg1 Hpo
      go_wp2_with (at_builtin; refine wpList_append_hr _ _ 22 rfl rfl _ _ rfl rfl _ _ hr ?_)
      clear hr
      go_roundw
      case rel =>
        refine ⟨j + 1, m / 128, k', by omega, by go_num, by go_num, (by have := hm.out; show m / 128 < _; omega), hb1, hs1, ?_, p ++ [q], ?_, ?_, ?_⟩
        · have := Hjl.out; rw [Hcons.out] at this; simp at this; omega
        · have := Hpl.out; simp [this]
        · rw [Hpx.out, Hcons.out]; simp
        · have := Ho1.out
          rw [List.append_assoc, ← u8s_append] at this
          exact this
      case measure => simp [intOf]; omega
    · have hge : decide ((j : Int) < (L : Int) - 1) = false := by rw [decide_eq_false_iff_not]; omega
      obtain ⟨p, hpl, hpx, hpo⟩ := hp.out
      have Hpo := Lib.hid hpo; clear hpo
      have h1 : (vbF k m).length = 1 := by have := vbF_pos k m; omega
      have e1 := vbF_last h1
      have Hfin := Lib.hid (show vbytes x = p ++ [m % 256] from by rw [vbytes_eq, hpx, e1])
      have Hpl := Lib.hid hpl; clear hpl hpx h1 e1
      have Hjl := Lib.hid hjl; clear hjl
      have hq256 : m % 256 < 256 := by omega
      have hmq : ((m : Int) % 256) = ((m % 256 : Nat) : Int) := by omega
      generalize m % 256 = q at *
      obtain ⟨v', w1, hr, ho1, hg1⟩ := run_append_byts base _ (n + j) _ (Hpo.out.alloc (.cells #[.int .u8 (q : Int)] 5)) (some ⟨wr.heap.size, 0, none⟩) 1 1 [q] (byts_lit _ _ 1 _ [q] _ _ rfl rfl rfl (by intro x hx; simp at hx; omega) (by omega)) (by omega) (by simp only [World.size_alloc]; omega)
      have Ho1 := Lib.hid ho1; clear ho1
      have hb1 : Below base w w1 := (hb.alloc hbs _).grown hg1 (by simp only [World.size_alloc]; omega) (fun k hk => (Hpo.out.lt k hk).1)
      clear hg1 Hpo
      go_wp2_with (at_builtin; refine wpList_append_hr _ _ 22 rfl rfl _ _ rfl rfl _ _ hr ?_)
      go_ret
      refine ⟨v', rfl, ?_, hb1⟩
      have h2 := Ho1.out
      rw [List.append_assoc, ← u8s_append] at h2
      rw [Hfin.out]
      have h3 : n + (p ++ [q]).length = n + j + 1 := by have := Hpl.out; simp [this]; omega
      rw [h3]
      exact h2

set_option maxHeartbeats 1000000 in
theorem refvar_any : ∀ (k x : Nat) (w : World), x < 2 ^ (7 * k + 7) → x < 18446744073709551616 → k ≤ 9 →
   Calls Tryd.prog 23 #[.int .u64 x] w fun e w' => ∃ v', e = .returned v' ∧ w'.ownsRow w.heap.size 5 1 v' (vbF k x).length (u8s (vbF k x)) ∧ Below w.heap.size w w' := by
  intro k
  induction k with
  | zero =>
    intro x w hx h64 _
    have h128 : x < 128 := by simpa using hx
    have ho := World.ownsRow_lit (e := 5) (size := 1) (base := w.heap.size) w #[.int .u8 (x : Int)] 1 (Nat.le_refl _) (by unfold maxLen; omega) rfl
    have Ho := Lib.hid ho; clear ho hx h64
    have hlt : decide ((x : Int) < 128) = true := by rw [decide_eq_true_iff]; omega
    have hm : ((x : Int) % 256) = (x : Int) := by omega
    have He := Lib.hid (show vbF 0 x = [x] from by simp [vbF]; omega)
    go_enter Tryd.func23, Tryd.ntmps23
    go_wp2_with fail
    go_ret
    exact ⟨_, rfl, by rw [He.out]; exact Ho.out, (Below.refl _ _).alloc (Nat.le_refl _) _⟩
  | succ k ih =>
    intro x w hx h64 hk
    by_cases h128 : x < 128
    · have ho := World.ownsRow_lit (e := 5) (size := 1) (base := w.heap.size) w #[.int .u8 (x : Int)] 1 (Nat.le_refl _) (by unfold maxLen; omega) rfl
      have Ho := Lib.hid ho; clear ho hx h64
      have hlt : decide ((x : Int) < 128) = true := by rw [decide_eq_true_iff]; omega
      have hm : ((x : Int) % 256) = (x : Int) := by omega
      have He := Lib.hid (show vbF (k + 1) x = [x] from by rw [vbF_succ, if_pos h128])
      have Ih := Lib.hid ih; clear ih
      go_enter Tryd.func23, Tryd.ntmps23
      go_wp2_with fail
      go_ret
      exact ⟨_, rfl, by rw [He.out]; exact Ho.out, (Below.refl _ _).alloc (Nat.le_refl _) _⟩
    · have hge : decide ((x : Int) < 128) = false := by rw [decide_eq_false_iff_not]; omega
      have hd : x / 128 < 2 ^ (7 * k + 7) := by
        rw [show 7 * (k + 1) + 7 = (7 * k + 7) + 7 from by omega, Nat.pow_add] at hx
        generalize 2 ^ (7 * k + 7) = P at *
        exact Nat.div_lt_of_lt_mul (by omega)
      have hq256 : x % 128 + 128 < 256 := by omega
      have Hxd := Lib.hid (show ((x : Int) / 128) = ((x / 128 : Nat) : Int) from by omega)
      have He := Lib.hid (show vbF (k + 1) x = (x % 128 + 128) :: vbF k (x / 128) from by rw [vbF_succ, if_neg h128])
      have hl := vbF_len_le k (x / 128)
      have Hl := Lib.hid (vbF_lt k (x / 128))
      have Ih := Lib.hid (fun w => ih (x / 128) w hd (by have := Nat.div_le_self x 128; omega) (by omega)); clear ih
      have ho1 := World.ownsRow_lit (e := 5) (size := 1) (base := w.heap.size) w #[.int .u8 ((x : Int) % 128 + 128)] 1 (Nat.le_refl _) (by unfold maxLen; omega) rfl
      have Ho1 := Lib.hid ho1; clear ho1
      clear hx hd
      go_enter Tryd.func23, Tryd.ntmps23
      go_wp2_with fail
      rw [Hxd.out]
      refine (Ih.out _).mono ?_
      rintro e w2 ⟨v2, rfl, ho2, hb2⟩
      obtain ⟨a2, c2, rfl, hB2⟩ := byts_own ho2 Hl.out
      have h1' := own_below Ho1.out hb2
      have hbb : Below w.heap.size w w2 := ((Below.refl _ _).alloc (Nat.le_refl _) _).trans (hb2.mono (by simp only [World.size_alloc]; omega))
      obtain ⟨v3, w3, hr3, ho3, hg3⟩ := run_append_byts w.heap.size _ 1 _ h1' a2 _ c2 _ hB2 (by omega) hbb.size
      have Ho3 := Lib.hid ho3
      have hb3 := hbb.grown hg3 hbb.size (by intro k hk; simp [Value.ownBlock] at hk; omega)
      clear hg3 hb2 ho2 hB2 h1' ho3 hbb
      go_wp2_with (at_builtin; refine wpList_append_hr _ _ 22 rfl rfl _ _ rfl rfl _ _ hr3 ?_)
      go_ret
      refine ⟨_, rfl, ?_, hb3⟩
      have h4 := Ho3.out
      rw [show ((x : Int) % 128 + 128) = ((x % 128 + 128 : Nat) : Int) from by omega] at h4
      rw [He.out, List.length_cons, Nat.add_comm]
      exact h4

end Go.Proofs.YtejcakbkldecmaaDoor
