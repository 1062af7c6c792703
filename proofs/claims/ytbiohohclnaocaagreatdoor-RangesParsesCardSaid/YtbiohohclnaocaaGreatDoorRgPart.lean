/-
  Walk: ranges.digits, ranges.part.
-/
import Derived.Test.YtbiohohclnaocaaGreatDoorRgDec
import Derived.Test.YtbiohohclnaocaaGreatDoorRgTextQ
import Derived.Shelf.Strings.SlTrimAscii
namespace Go.Proofs.YtbiohohclnaocaaGreatDoor
open Go.RowKit
set_option linter.unusedVariables false
set_option linter.unusedSimpArgs false

theorem Tryz.info_asciiSet : (Tryz.prog.info? 166).map (fun i => (i.zero, i.size)) = some (some (.agg (Array.replicate 256 (.bool false))), 256) := by kernel_rfl

theorem trim_any (s : Txt) (hs : s.length ≤ 1000000) (w : World) :
    Calls Tryz.prog 89 #[strV s, .string ⟨#[48, 49, 50, 51, 52, 53, 54, 55, 56, 57]⟩] w fun e w' => e = .returned (strV (Lib.trimS s digs)) ∧ Below w.heap.size w w' := by
  have h := Any.strings_Trim_laid Tryz.lays160 Tryz.info_asciiSet ⟨s.toArray⟩ ⟨#[48, 49, 50, 51, 52, 53, 54, 55, 56, 57]⟩ w (by simp [ByteArray.size]; omega) (by decide) (Go.Proofs.ascii_of_all (by decide))
  exact h

set_option maxHeartbeats 1000000 in
theorem digits_any (s : Txt) (hs : s.length ≤ 1000000) (w : World) :
    Calls Tryz.prog 64 #[strV s] w fun e w' => e = .returned (.bool (digT s)) ∧ Below w.heap.size w w' := by
  have hT := Lib.hid (fun w => trim_any s hs w)
  rcases s with _ | ⟨c, r⟩
  · go_enter Tryz.func64, Tryz.ntmps64
    go_wp2
    go_ret
    exact ⟨rfl, Below.refl _ _⟩
  · have htr := trim_digs (c :: r)
    generalize Lib.trimS (c :: r) digs = t at *
    go_enter Tryz.func64, Tryz.ntmps64
    go_wp2_with fail
    refine (hT.out _).mono ?_
    rintro e w1 ⟨rfl, hb1⟩
    have Hb1 := Lib.hid hb1; clear hb1
    rcases t with _ | ⟨d, t⟩
    · have hall := htr.1 rfl
      clear htr
      by_cases hc : c = 48
      · subst hc
        rcases r with _ | ⟨d, r⟩
        · go_wp2
          go_ret
          exact ⟨rfl, Hb1.out⟩
        · have Hres := Lib.hid (show digT (48 :: d :: r) = false from by unfold digT; simp)
          go_wp2
          go_ret
          exact ⟨by rw [Hres.out]; rfl, Hb1.out⟩
      · have hcn : ((c.toNat : Int) != 48) = true := by
          rw [bne_iff_ne]
          intro h
          exact hc (UInt8.toNat_inj.1 (by show c.toNat = 48; omega))
        have Hres := Lib.hid (show digT (c :: r) = true from by unfold digT; rw [hall]; simp [hc])
        have Hcn := Lib.hid hcn
        clear hcn
        go_wp2
        go_ret
        refine ⟨?_, Hb1.out⟩
        rw [Hres.out]
        show Ending.returned (Value.bool (c == 48 && r.isEmpty || ((c.toNat : Int) != 48))) = _
        rw [Hcn.out, Bool.or_true]
    · have hall : ¬ (c :: r).all isD = true := fun h => by have := htr.2 h; cases this
      have hall' : (c :: r).all isD = false := by simpa using hall
      have Hres := Lib.hid (show digT (c :: r) = false from by unfold digT; rw [hall']; simp)
      clear htr hall hall'
      go_wp2
      go_ret
      exact ⟨by rw [Hres.out]; rfl, Hb1.out⟩

theorem two_set {W : World} {g : Nat} {u v : Value} (x y : Value) (h0 : W.cell? ⟨g, 0, none⟩ = some u) (h1 : W.cell? ⟨g, 1, none⟩ = some v) :
    (W.setCell ⟨g, 0, none⟩ x).cell? ⟨g, 0, none⟩ = some x ∧ ((W.setCell ⟨g, 0, none⟩ x).setCell ⟨g, 1, none⟩ y).cell? ⟨g, 0, none⟩ = some x ∧ ((W.setCell ⟨g, 0, none⟩ x).setCell ⟨g, 1, none⟩ y).cell? ⟨g, 1, none⟩ = some y := by
  have e1 := World.cell?_setCell_same W ⟨g, 0, none⟩ x h0
  refine ⟨e1, ?_, ?_⟩
  · rw [World.cell?_setCell_other _ _ _ _ (by simp)]; exact e1
  · exact World.cell?_setCell_same _ _ _ (by rw [World.cell?_setCell_other _ _ _ _ (by simp)]; exact h1)

/-- What the search of the texts reads. -/
def MaxL (w : World) : Prop := ∃ m : Int, w.cell? ⟨1, 0, none⟩ = some (.int .i64 m)
theorem MaxL.below {w w' : World} (h : MaxL w) (hb : Below w.heap.size w w') : MaxL w' := by
  obtain ⟨m, hm⟩ := h
  exact ⟨m, (hb.cell (p := ⟨1, 0, none⟩) (cell_lt hm)).trans hm⟩

/-- The error of a number that is too great. -/
def RangeE (w : World) : Prop := ∃ te pe, w.cell? ⟨4, 0, none⟩ = some (.iface te pe)
theorem RangeE.below {w w' : World} (h : RangeE w) (hb : Below w.heap.size w w') : RangeE w' := by
  obtain ⟨t, p, hm⟩ := h
  exact ⟨t, p, (hb.cell (p := ⟨4, 0, none⟩) (cell_lt hm)).trans hm⟩

theorem alloc_lt' (w : World) (o : Obj) : w.heap.size < (w.alloc o).heap.size := by simp
theorem below_drewN (w : World) (n : Nat) : Below w.heap.size w (w.drewN n) := ⟨rfl, rfl, rfl, Nat.le_refl _, fun _ _ => rfl⟩

theorem cut_any (s : Txt) (hs : s.length ≤ 1000000) (w : World) (hM : MaxL w) :
    Calls Tryz.prog 63 #[strV s, .string ⟨#[45]⟩] w fun e w' => e = .returned (.tuple #[strV (Lib.cut s [45]).1, strV (Lib.cut s [45]).2.1, .bool (Lib.cut s [45]).2.2]) ∧ Below w.heap.size w w' := by
  obtain ⟨m, hm⟩ := hM
  refine (Tryz.strings_Cut ⟨s.toArray⟩ ⟨#[45]⟩ m w (by simp [ByteArray.size]; omega) hm).mono ?_
  rintro e w' ⟨rfl, n, rfl⟩
  exact ⟨rfl, below_drewN w n⟩

/-- What ParseUint answers to a text of digits. -/
def uintV (s : Txt) : Nat := match numT 0 s with | some v => v | none => 18446744073709551615

theorem below_bytes (w : World) (t : TypeId) (b : ByteArray) : Below w.heap.size w (Lib.bytesWorld w t b) := by
  exact ⟨rfl, rfl, rfl, by rw [Lib.bytesWorld_size]; omega, fun k hk => Lib.bytesWorld_at_old w t b k hk⟩

theorem parseU_ok (s : Txt) (hs : s.length ≤ 1000000) (hd : digT s = true) (v : Nat) (hv : numT 0 s = some v) (w : World) :
    Calls Tryz.prog 65 #[strV s, .int .i64 10, .int .i64 64] w fun e w' => e = .returned (.tuple #[.int .u64 v, .nilIface]) ∧ Below w.heap.size w w' := by
  have h := parseB_num hd
  rw [hv] at h
  refine (Tryz.strconv_ParseUint_10_at64_ok ⟨s.toArray⟩ (by simp [ByteArray.size]; omega) v h w).mono ?_
  rintro e w' ⟨rfl, rfl | rfl⟩
  · exact ⟨rfl, Below.refl _ _⟩
  · exact ⟨rfl, below_bytes _ _ _⟩

theorem parseU_no (s : Txt) (hs : s.length ≤ 1000000) (hd : digT s = true) (hv : numT 0 s = none) (w : World) (hR : RangeE w) :
    Calls Tryz.prog 65 #[strV s, .int .i64 10, .int .i64 64] w fun e w' => (∃ t p, e = .returned (.tuple #[.int .u64 18446744073709551615, .iface t p])) ∧ Below w.heap.size w w' := by
  obtain ⟨te, pe, hc⟩ := hR
  have h := parseB_num hd
  rw [hv] at h
  refine (Tryz.strconv_ParseUint_10_at64_range ⟨s.toArray⟩ (by simp [ByteArray.size]; omega) h _ w hc (.inr ⟨te, pe, rfl⟩)).mono ?_
  rintro e w' ⟨N, rfl, _, _, hb⟩
  exact ⟨⟨_, _, rfl⟩, hb⟩

theorem cut_len (s : Txt) : (Lib.cut s [45]).1.length ≤ s.length ∧ (Lib.cut s [45]).2.1.length ≤ s.length := by
  rcases split_at 45 s with h | ⟨a, b, rfl, ha⟩
  · rw [cut_none h]; simp
  · rw [cut_some b ha]
    simp only [List.length_append, List.length_cons]
    omega

def numP (a b : Txt) : Nat × Iv := match numT 0 a, numT 0 b with | some x, some y => (0, (x, y)) | _, _ => (8, (0, 0))
def pairP (a b : Txt) : Nat × Iv := if digT a && digT b then numP a b else (15, (0, 0))
theorem partR_pair (s : Txt) : partR s = pairP (Lib.cut s [45]).1 (if (Lib.cut s [45]).2.2 then (Lib.cut s [45]).2.1 else (Lib.cut s [45]).1) := rfl
theorem pairP_yes {a b : Txt} (h1 : digT a = true) (h2 : digT b = true) : pairP a b = numP a b := by unfold pairP; rw [h1, h2]; rfl
theorem pairP_no1 {a b : Txt} (h1 : digT a = false) : pairP a b = (15, (0, 0)) := by unfold pairP; rw [h1]; rfl
theorem pairP_no2 {a b : Txt} (h1 : digT b = false) : pairP a b = (15, (0, 0)) := by unfold pairP; rw [h1, Bool.and_false]; rfl
theorem numP_yes {a b : Txt} {x y : Nat} (h1 : numT 0 a = some x) (h2 : numT 0 b = some y) : numP a b = (0, (x, y)) := by unfold numP; rw [h1, h2]
theorem numP_no1 {a b : Txt} (h1 : numT 0 a = none) : numP a b = (8, (0, 0)) := by unfold numP; rw [h1]
theorem numP_no2 {a b : Txt} (h1 : numT 0 b = none) : numP a b = (8, (0, 0)) := by unfold numP; rw [h1]; cases numT 0 a <;> rfl

set_option maxRecDepth 20000 in
set_option maxHeartbeats 4000000 in
theorem part_any (s : Txt) (hs : s.length ≤ 1000000) (w : World) (hM : MaxL w) (hR : RangeE w) :
    Calls Tryz.prog 42 #[strV s] w fun e w' => e = .returned (.tuple #[ivV (partR s).2, .int .i64 ((partR s).1 : Nat)]) ∧ Below w.heap.size w w' := by
  have hA := (Below.refl _ w).alloc (Nat.le_refl _) (.cells #[.int .u64 0, .int .u64 0] 31)
  have hC := Lib.hid (fun W (h : Below w.heap.size w W) => cut_any s hs W (hM.below h))
  have HR := Lib.hid (fun W (h : Below w.heap.size w W) => hR.below h)
  have hp := cut_len s
  have Hp := Lib.hid (show (Lib.cut s [45]).1.length ≤ 1000000 by omega)
  have Hq := Lib.hid (show (Lib.cut s [45]).2.1.length ≤ 1000000 by omega)
  have Hpart := Lib.hid (partR_pair s)
  have q1 : (w.alloc (.cells #[.int .u64 0, .int .u64 0] 31)).cell? ⟨w.heap.size, 0, none⟩ = some (.int .u64 0) := by simp [go_sem]
  have q2 : (w.alloc (.cells #[.int .u64 0, .int .u64 0] 31)).cell? ⟨w.heap.size, 1, none⟩ = some (.int .u64 0) := by simp [go_sem]
  have q3 : (w.alloc (.cells #[.int .u64 0, .int .u64 0] 31)).frozen? ⟨w.heap.size, 0, none⟩ = false := by simp [go_sem]
  have q4 : (w.alloc (.cells #[.int .u64 0, .int .u64 0] 31)).frozen? ⟨w.heap.size, 1, none⟩ = false := by simp [go_sem]
  have hgl := alloc_lt' w (.cells #[.int .u64 0, .int .u64 0] 31)
  have HA := Lib.hid hA
  clear hM hR hp hA
  generalize Lib.cut s [45] = c at *
  obtain ⟨p, q, two⟩ := c
  simp only at Hp Hq Hpart hC
  go_enter Tryz.func42, Tryz.ntmps42
  go_wp2_with fail
  generalize hW : w.alloc (.cells #[.int .u64 0, .int .u64 0] 31) = w1 at *
  have HW := Lib.hid hW; clear hW
  have r1 := fun W (h : Below w1.heap.size w1 W) => (h.cell (p := ⟨w.heap.size, 0, none⟩) hgl).trans q1
  have r2 := fun W (h : Below w1.heap.size w1 W) => (h.cell (p := ⟨w.heap.size, 1, none⟩) hgl).trans q2
  have r3 := fun W (h : Below w1.heap.size w1 W) => (h.frozen (p := ⟨w.heap.size, 0, none⟩) hgl).trans q3
  have r4 := fun W (h : Below w1.heap.size w1 W) => (h.frozen (p := ⟨w.heap.size, 1, none⟩) hgl).trans q4
  have HbW := Lib.hid (fun W (h : Below w1.heap.size w1 W) => HA.out.trans (h.mono HA.out.size))
  clear q1 q2 q3 q4
  refine (hC.out _ HA.out).mono ?_
  rintro e w2 ⟨rfl, hb2⟩
  have Hb2 := Lib.hid hb2
  clear hb2 hC
  cases two
  · -- two = false
    have Hpr0 := Lib.hid (show partR s = pairP p p from Hpart.out)
    go_wp2_with fail
    refine (digits_any p Hp.out _).mono ?_
    rintro e w3 ⟨rfl, hb3⟩
    have Hb3 := Lib.hid (Hb2.out.trans (hb3.mono Hb2.out.size)); clear hb3
    by_cases hd1 : digT p = true
    · rw [hd1]
      go_wp2_with fail
      refine (digits_any p Hp.out _).mono ?_
      rintro e w4 ⟨rfl, hb4⟩
      have Hb4 := Lib.hid (Hb3.out.trans (hb4.mono Hb3.out.size)); clear hb4
      by_cases hd2 : digT p = true
      · have Hd1 := Lib.hid hd1
        have Hd2 := Lib.hid hd2
        rw [hd2]
        have Hpr1 := Lib.hid (Hpr0.out.trans (pairP_yes hd1 hd2))
        clear hd1 hd2
        rcases h1 : numT 0 p with _ | x
        · have Hpr := Lib.hid (Hpr1.out.trans (numP_no1 h1))
          have h1' := Lib.hid h1; clear h1
          go_wp2_with fail
          refine (parseU_no p Hp.out Hd1.out h1'.out _ (HR.out _ (HbW.out _ Hb4.out))).mono ?_
          rintro e w5 ⟨⟨te, pe, rfl⟩, hb5⟩
          have Hb5 := Lib.hid (Hb4.out.trans (hb5.mono Hb4.out.size)); clear hb5
          rcases h2 : numT 0 p with _ | y
          · have h2' := Lib.hid h2; clear h2
            go_wp2_with fail
            refine (parseU_no p Hp.out Hd2.out h2'.out _ (HR.out _ (HbW.out _ Hb5.out))).mono ?_
            rintro e w6 ⟨⟨te', pe', rfl⟩, hb6⟩
            have Hb6 := Lib.hid (Hb5.out.trans (hb6.mono Hb5.out.size)); clear hb6
            have c1 := r1 _ Hb6.out
            have c2 := r2 _ Hb6.out
            have c3 := r3 _ Hb6.out
            have c4 := r4 _ Hb6.out
            go_wp2_with fail
            obtain ⟨e1, e2, e3⟩ := two_set (.int .u64 ((0 : Nat) : Int)) (.int .u64 ((0 : Nat) : Int)) c1 c2; (try simp only [Int.cast_ofNat_Int] at e1 e2 e3); refine bodyPost_ret (v := .tuple #[ivV (0, 0), .int .i64 8]) (by simp [results, Tryz.results42, go_sem, e1, e2, e3]) rfl ⟨by rw [Hpr.out]; rfl, Below.setCell (Below.setCell (HbW.out _ Hb6.out) (Nat.le_refl _) _) (Nat.le_refl _) _⟩
          · have h2' := Lib.hid h2; clear h2
            go_wp2_with fail
            refine (parseU_ok p Hp.out Hd2.out y h2'.out _).mono ?_
            rintro e w6 ⟨rfl, hb6⟩
            have Hb6 := Lib.hid (Hb5.out.trans (hb6.mono Hb5.out.size)); clear hb6
            have c1 := r1 _ Hb6.out
            have c2 := r2 _ Hb6.out
            have c3 := r3 _ Hb6.out
            have c4 := r4 _ Hb6.out
            go_wp2_with fail
            obtain ⟨e1, e2, e3⟩ := two_set (.int .u64 ((0 : Nat) : Int)) (.int .u64 ((0 : Nat) : Int)) c1 c2; (try simp only [Int.cast_ofNat_Int] at e1 e2 e3); refine bodyPost_ret (v := .tuple #[ivV (0, 0), .int .i64 8]) (by simp [results, Tryz.results42, go_sem, e1, e2, e3]) rfl ⟨by rw [Hpr.out]; rfl, Below.setCell (Below.setCell (HbW.out _ Hb6.out) (Nat.le_refl _) _) (Nat.le_refl _) _⟩
        · have h1' := Lib.hid h1
          go_wp2_with fail
          refine (parseU_ok p Hp.out Hd1.out x h1'.out _).mono ?_
          rintro e w5 ⟨rfl, hb5⟩
          have Hb5 := Lib.hid (Hb4.out.trans (hb5.mono Hb4.out.size)); clear hb5
          rcases h2 : numT 0 p with _ | y
          · have Hpr := Lib.hid (Hpr1.out.trans (numP_no2 h2))
            have h2' := Lib.hid h2; clear h1 h2
            go_wp2_with fail
            refine (parseU_no p Hp.out Hd2.out h2'.out _ (HR.out _ (HbW.out _ Hb5.out))).mono ?_
            rintro e w6 ⟨⟨te', pe', rfl⟩, hb6⟩
            have Hb6 := Lib.hid (Hb5.out.trans (hb6.mono Hb5.out.size)); clear hb6
            have c1 := r1 _ Hb6.out
            have c2 := r2 _ Hb6.out
            have c3 := r3 _ Hb6.out
            have c4 := r4 _ Hb6.out
            go_wp2_with fail
            obtain ⟨e1, e2, e3⟩ := two_set (.int .u64 ((0 : Nat) : Int)) (.int .u64 ((0 : Nat) : Int)) c1 c2; (try simp only [Int.cast_ofNat_Int] at e1 e2 e3); refine bodyPost_ret (v := .tuple #[ivV (0, 0), .int .i64 8]) (by simp [results, Tryz.results42, go_sem, e1, e2, e3]) rfl ⟨by rw [Hpr.out]; rfl, Below.setCell (Below.setCell (HbW.out _ Hb6.out) (Nat.le_refl _) _) (Nat.le_refl _) _⟩
          · have Hpr := Lib.hid (Hpr1.out.trans (numP_yes h1 h2))
            have h2' := Lib.hid h2; clear h1 h2
            go_wp2_with fail
            refine (parseU_ok p Hp.out Hd2.out y h2'.out _).mono ?_
            rintro e w6 ⟨rfl, hb6⟩
            have Hb6 := Lib.hid (Hb5.out.trans (hb6.mono Hb5.out.size)); clear hb6
            have c1 := r1 _ Hb6.out
            have c2 := r2 _ Hb6.out
            have c3 := r3 _ Hb6.out
            have c4 := r4 _ Hb6.out
            go_wp2_with fail
            obtain ⟨e1, e2, e3⟩ := two_set (.int .u64 ((x : Nat) : Int)) (.int .u64 ((y : Nat) : Int)) c1 c2; (try simp only [Int.cast_ofNat_Int] at e1 e2 e3); refine bodyPost_ret (v := .tuple #[ivV (x, y), .int .i64 0]) (by simp [results, Tryz.results42, go_sem, e1, e2, e3]) rfl ⟨by rw [Hpr.out]; rfl, Below.setCell (Below.setCell (HbW.out _ Hb6.out) (Nat.le_refl _) _) (Nat.le_refl _) _⟩
      · have hd2' : digT p = false := by simpa using hd2
        have Hpr := Lib.hid (Hpr0.out.trans (pairP_no2 (a := p) hd2'))
        rw [hd2']
        clear hd1 hd2 hd2'
        have c1 := r1 _ Hb4.out
        have c2 := r2 _ Hb4.out
        have c3 := r3 _ Hb4.out
        have c4 := r4 _ Hb4.out
        go_wp2_with fail
        obtain ⟨e1, e2, e3⟩ := two_set (.int .u64 ((0 : Nat) : Int)) (.int .u64 ((0 : Nat) : Int)) c1 c2; (try simp only [Int.cast_ofNat_Int] at e1 e2 e3); refine bodyPost_ret (v := .tuple #[ivV (0, 0), .int .i64 15]) (by simp [results, Tryz.results42, go_sem, e1, e2, e3]) rfl ⟨by rw [Hpr.out]; rfl, Below.setCell (Below.setCell (HbW.out _ Hb4.out) (Nat.le_refl _) _) (Nat.le_refl _) _⟩
    · have hd1' : digT p = false := by simpa using hd1
      have Hpr := Lib.hid (Hpr0.out.trans (pairP_no1 (b := p) hd1'))
      rw [hd1']
      clear hd1 hd1'
      have c1 := r1 _ Hb3.out
      have c2 := r2 _ Hb3.out
      have c3 := r3 _ Hb3.out
      have c4 := r4 _ Hb3.out
      go_wp2_with fail
      obtain ⟨e1, e2, e3⟩ := two_set (.int .u64 ((0 : Nat) : Int)) (.int .u64 ((0 : Nat) : Int)) c1 c2; (try simp only [Int.cast_ofNat_Int] at e1 e2 e3); refine bodyPost_ret (v := .tuple #[ivV (0, 0), .int .i64 15]) (by simp [results, Tryz.results42, go_sem, e1, e2, e3]) rfl ⟨by rw [Hpr.out]; rfl, Below.setCell (Below.setCell (HbW.out _ Hb3.out) (Nat.le_refl _) _) (Nat.le_refl _) _⟩
  · -- two = true
    have Hpr0 := Lib.hid (show partR s = pairP p q from Hpart.out)
    go_wp2_with fail
    refine (digits_any p Hp.out _).mono ?_
    rintro e w3 ⟨rfl, hb3⟩
    have Hb3 := Lib.hid (Hb2.out.trans (hb3.mono Hb2.out.size)); clear hb3
    by_cases hd1 : digT p = true
    · rw [hd1]
      go_wp2_with fail
      refine (digits_any q Hq.out _).mono ?_
      rintro e w4 ⟨rfl, hb4⟩
      have Hb4 := Lib.hid (Hb3.out.trans (hb4.mono Hb3.out.size)); clear hb4
      by_cases hd2 : digT q = true
      · have Hd1 := Lib.hid hd1
        have Hd2 := Lib.hid hd2
        rw [hd2]
        have Hpr1 := Lib.hid (Hpr0.out.trans (pairP_yes hd1 hd2))
        clear hd1 hd2
        rcases h1 : numT 0 p with _ | x
        · have Hpr := Lib.hid (Hpr1.out.trans (numP_no1 h1))
          have h1' := Lib.hid h1; clear h1
          go_wp2_with fail
          refine (parseU_no p Hp.out Hd1.out h1'.out _ (HR.out _ (HbW.out _ Hb4.out))).mono ?_
          rintro e w5 ⟨⟨te, pe, rfl⟩, hb5⟩
          have Hb5 := Lib.hid (Hb4.out.trans (hb5.mono Hb4.out.size)); clear hb5
          rcases h2 : numT 0 q with _ | y
          · have h2' := Lib.hid h2; clear h2
            go_wp2_with fail
            refine (parseU_no q Hq.out Hd2.out h2'.out _ (HR.out _ (HbW.out _ Hb5.out))).mono ?_
            rintro e w6 ⟨⟨te', pe', rfl⟩, hb6⟩
            have Hb6 := Lib.hid (Hb5.out.trans (hb6.mono Hb5.out.size)); clear hb6
            have c1 := r1 _ Hb6.out
            have c2 := r2 _ Hb6.out
            have c3 := r3 _ Hb6.out
            have c4 := r4 _ Hb6.out
            go_wp2_with fail
            obtain ⟨e1, e2, e3⟩ := two_set (.int .u64 ((0 : Nat) : Int)) (.int .u64 ((0 : Nat) : Int)) c1 c2; (try simp only [Int.cast_ofNat_Int] at e1 e2 e3); refine bodyPost_ret (v := .tuple #[ivV (0, 0), .int .i64 8]) (by simp [results, Tryz.results42, go_sem, e1, e2, e3]) rfl ⟨by rw [Hpr.out]; rfl, Below.setCell (Below.setCell (HbW.out _ Hb6.out) (Nat.le_refl _) _) (Nat.le_refl _) _⟩
          · have h2' := Lib.hid h2; clear h2
            go_wp2_with fail
            refine (parseU_ok q Hq.out Hd2.out y h2'.out _).mono ?_
            rintro e w6 ⟨rfl, hb6⟩
            have Hb6 := Lib.hid (Hb5.out.trans (hb6.mono Hb5.out.size)); clear hb6
            have c1 := r1 _ Hb6.out
            have c2 := r2 _ Hb6.out
            have c3 := r3 _ Hb6.out
            have c4 := r4 _ Hb6.out
            go_wp2_with fail
            obtain ⟨e1, e2, e3⟩ := two_set (.int .u64 ((0 : Nat) : Int)) (.int .u64 ((0 : Nat) : Int)) c1 c2; (try simp only [Int.cast_ofNat_Int] at e1 e2 e3); refine bodyPost_ret (v := .tuple #[ivV (0, 0), .int .i64 8]) (by simp [results, Tryz.results42, go_sem, e1, e2, e3]) rfl ⟨by rw [Hpr.out]; rfl, Below.setCell (Below.setCell (HbW.out _ Hb6.out) (Nat.le_refl _) _) (Nat.le_refl _) _⟩
        · have h1' := Lib.hid h1
          go_wp2_with fail
          refine (parseU_ok p Hp.out Hd1.out x h1'.out _).mono ?_
          rintro e w5 ⟨rfl, hb5⟩
          have Hb5 := Lib.hid (Hb4.out.trans (hb5.mono Hb4.out.size)); clear hb5
          rcases h2 : numT 0 q with _ | y
          · have Hpr := Lib.hid (Hpr1.out.trans (numP_no2 h2))
            have h2' := Lib.hid h2; clear h1 h2
            go_wp2_with fail
            refine (parseU_no q Hq.out Hd2.out h2'.out _ (HR.out _ (HbW.out _ Hb5.out))).mono ?_
            rintro e w6 ⟨⟨te', pe', rfl⟩, hb6⟩
            have Hb6 := Lib.hid (Hb5.out.trans (hb6.mono Hb5.out.size)); clear hb6
            have c1 := r1 _ Hb6.out
            have c2 := r2 _ Hb6.out
            have c3 := r3 _ Hb6.out
            have c4 := r4 _ Hb6.out
            go_wp2_with fail
            obtain ⟨e1, e2, e3⟩ := two_set (.int .u64 ((0 : Nat) : Int)) (.int .u64 ((0 : Nat) : Int)) c1 c2; (try simp only [Int.cast_ofNat_Int] at e1 e2 e3); refine bodyPost_ret (v := .tuple #[ivV (0, 0), .int .i64 8]) (by simp [results, Tryz.results42, go_sem, e1, e2, e3]) rfl ⟨by rw [Hpr.out]; rfl, Below.setCell (Below.setCell (HbW.out _ Hb6.out) (Nat.le_refl _) _) (Nat.le_refl _) _⟩
          · have Hpr := Lib.hid (Hpr1.out.trans (numP_yes h1 h2))
            have h2' := Lib.hid h2; clear h1 h2
            go_wp2_with fail
            refine (parseU_ok q Hq.out Hd2.out y h2'.out _).mono ?_
            rintro e w6 ⟨rfl, hb6⟩
            have Hb6 := Lib.hid (Hb5.out.trans (hb6.mono Hb5.out.size)); clear hb6
            have c1 := r1 _ Hb6.out
            have c2 := r2 _ Hb6.out
            have c3 := r3 _ Hb6.out
            have c4 := r4 _ Hb6.out
            go_wp2_with fail
            obtain ⟨e1, e2, e3⟩ := two_set (.int .u64 ((x : Nat) : Int)) (.int .u64 ((y : Nat) : Int)) c1 c2; (try simp only [Int.cast_ofNat_Int] at e1 e2 e3); refine bodyPost_ret (v := .tuple #[ivV (x, y), .int .i64 0]) (by simp [results, Tryz.results42, go_sem, e1, e2, e3]) rfl ⟨by rw [Hpr.out]; rfl, Below.setCell (Below.setCell (HbW.out _ Hb6.out) (Nat.le_refl _) _) (Nat.le_refl _) _⟩
      · have hd2' : digT q = false := by simpa using hd2
        have Hpr := Lib.hid (Hpr0.out.trans (pairP_no2 (a := p) hd2'))
        rw [hd2']
        clear hd1 hd2 hd2'
        have c1 := r1 _ Hb4.out
        have c2 := r2 _ Hb4.out
        have c3 := r3 _ Hb4.out
        have c4 := r4 _ Hb4.out
        go_wp2_with fail
        obtain ⟨e1, e2, e3⟩ := two_set (.int .u64 ((0 : Nat) : Int)) (.int .u64 ((0 : Nat) : Int)) c1 c2; (try simp only [Int.cast_ofNat_Int] at e1 e2 e3); refine bodyPost_ret (v := .tuple #[ivV (0, 0), .int .i64 15]) (by simp [results, Tryz.results42, go_sem, e1, e2, e3]) rfl ⟨by rw [Hpr.out]; rfl, Below.setCell (Below.setCell (HbW.out _ Hb4.out) (Nat.le_refl _) _) (Nat.le_refl _) _⟩
    · have hd1' : digT p = false := by simpa using hd1
      have Hpr := Lib.hid (Hpr0.out.trans (pairP_no1 (b := q) hd1'))
      rw [hd1']
      clear hd1 hd1'
      have c1 := r1 _ Hb3.out
      have c2 := r2 _ Hb3.out
      have c3 := r3 _ Hb3.out
      have c4 := r4 _ Hb3.out
      go_wp2_with fail
      obtain ⟨e1, e2, e3⟩ := two_set (.int .u64 ((0 : Nat) : Int)) (.int .u64 ((0 : Nat) : Int)) c1 c2; (try simp only [Int.cast_ofNat_Int] at e1 e2 e3); refine bodyPost_ret (v := .tuple #[ivV (0, 0), .int .i64 15]) (by simp [results, Tryz.results42, go_sem, e1, e2, e3]) rfl ⟨by rw [Hpr.out]; rfl, Below.setCell (Below.setCell (HbW.out _ Hb3.out) (Nat.le_refl _) _) (Nat.le_refl _) _⟩

end Go.Proofs.YtbiohohclnaocaaGreatDoor
