/-
  Walks: the statements of kenninglaw20 (crc) at bytes that can be read.
-/
import Derived.Test.YteonpcckifkafaaCrcAlive
namespace Go.Proofs.Yteonpcckifkafaa
open Go.RowKit Go.Joins
set_option linter.unusedVariables false

/-- What the frame of a law tells of a slice of bytes that came in. -/
def InRow (k : IntKind) (w : World) (a : Option Addr) (len cap : Nat) (zs : List Int) : Prop :=
  (a = none ∧ len = 0 ∧ cap = 0 ∧ zs = []) ∨
  ∃ x, a = some x ∧ len ≤ cap ∧ cap ≤ maxLen ∧ zs.length = cap ∧ (∀ i, i < zs.length → w.cell? (x.add i) = some (.int k (zs.getD i 0))) ∧ ∀ n ∈ zs, (Lit.int k n).wf = true

theorem u8_bd {n : Int} (h : (Lit.int .u8 n).wf = true) : 0 ≤ n ∧ n < 256 := by
  simp [Lit.wf, IntKind.min, IntKind.max, IntKind.signed, IntKind.bits] at h
  omega

theorem byts_row {w : World} {a : Option Addr} {len cap : Nat} {zs : List Int} (h : InRow .u8 w a len cap zs) : Byts w a len ((zs.take len).map Int.toNat) := by
  rcases h with ⟨rfl, rfl, rfl, rfl⟩ | ⟨x, rfl, hl, hm, hz, hc, hw⟩
  · exact byts_nil w none
  · refine ⟨by simp; omega, ?_, by unfold maxLen at hm; omega, fun hn => ?_⟩
    · intro y hy
      simp only [List.mem_map] at hy
      obtain ⟨z, hzm, rfl⟩ := hy
      have := u8_bd (hw z (List.mem_of_mem_take hzm))
      omega
    · have h0 := hc 0 (by omega)
      have hx : x.add 0 = x := rfl
      rw [hx] at h0
      obtain ⟨b, o, sp⟩ := x
      have hsp : sp = none := by
        cases sp with
        | none => rfl
        | some k =>
          unfold World.cell? at h0
          split at h0 <;> simp at h0
      subst hsp
      refine ⟨b, o, rfl, fun i hi => ?_⟩
      have h1 := hc i (by omega)
      have e : ((⟨b, o, none⟩ : Addr).add i) = ⟨b, o + i, none⟩ := by
        unfold Addr.add; split
        · subst_vars; rfl
        · simp
      rw [e] at h1
      rw [h1]
      have hlt : i < zs.length := by omega
      have hb := u8_bd (hw zs[i] (List.getElem_mem hlt))
      have : nth ((zs.take len).map Int.toNat) i = (zs.getD i 0).toNat := by
        simp [nth, hi, hlt]
      rw [this]
      congr 2
      rw [List.getD_eq_getElem?_getD, List.getElem?_eq_getElem hlt]
      simp
      omega

theorem walkCrcSums (a : Option Addr) (n cap : Nat) (zs : List Int) (w : World) (h : InRow .u8 w a n cap zs) :
    Calls Try.prog 3 #[.slice a n cap] w fun e w' => e = .returned (.bool true) ∧ Below w.heap.size w w' := by
  have hB := byts_row h
  have hm := hB.room
  generalize (zs.take n).map Int.toNat = l at *
  clear h
  have HB := Lib.hid hB; clear hB
  by_cases hn : 2000 < n
  · go_enter Try.func3, Try.ntmps3
    go_wp2_with (go_at_call 9; refine (alive_any _).mono ?_; rintro e w1 ⟨rfl, hb⟩)
    go_ret
    exact ⟨rfl, hb⟩
  · go_enter Try.func3, Try.ntmps3
    go_wp2_with fail
    refine (alive_any _).mono ?_
    rintro e w1 ⟨rfl, hb1⟩
    have HB1 := Lib.hid (HB.out.below hb1)
    go_wp2_with fail
    refine (sum_any _ _ _ l _ HB1.out).mono ?_
    rintro e w2 ⟨rfl, hb2⟩
    have HB2 := Lib.hid (HB1.out.below hb2)
    have hb := hb1.trans (hb2.mono hb1.size)
    clear hb1 hb2
    go_wp2_with fail
    refine (refsum_any _ _ _ l _ HB2.out).mono ?_
    rintro e w' ⟨rfl, rfl⟩
    go_wp2_with fail
    go_ret
    exact ⟨rfl, hb⟩

end Go.Proofs.Yteonpcckifkafaa
