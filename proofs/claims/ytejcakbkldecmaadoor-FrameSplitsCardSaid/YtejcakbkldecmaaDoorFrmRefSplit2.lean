/-
  kenningref21.Split.
-/
import Derived.Test.YtejcakbkldecmaaDoorFrmBytes
import Derived.Test.YtejcakbkldecmaaDoorFrmRef
namespace Go.Proofs.YtejcakbkldecmaaDoor
open Go.RowKit
set_option linter.unusedVariables false

set_option maxRecDepth 100000 in
set_option maxHeartbeats 1000000 in
theorem refsplit_err (a : Option Addr) (n cap p : Nat) (most : Int) (l : List Nat) (w : World) (s k : Nat) (c : Int × Option Int) (hh : headRes l p most = (s, k, some c)) (hc : c.1 ≠ 0) (hB : Byts w a n cap l) (hp : p ≤ n) (hn : n ≤ 100000) (hm0 : -9223372036854775808 ≤ most) (hm1 : most ≤ 9223372036854775807) :
    Calls Tryd.prog 16 #[.slice a n cap, .int .i64 p, .int .i64 most] w fun e w' =>
      e = .returned (.tuple #[.slice none 0 0, .int .i64 0, .int .i64 (errCode (some c)), .int .i64 (errAt (some c))]) ∧ Below w.heap.size w w' := by
  have Hh := Lib.hid (refheader_any a n cap p most l w hB hp hn hm0 hm1)
  rw [hh] at Hh
  have hcb : (errCode (some c) != 0) = true := by rw [bne_iff_ne]; exact hc
  clear hh hB hm0 hm1 hc
  show Calls _ _ _ _ _
  generalize errCode (some c) = ec at *
  generalize errAt (some c) = ea at *
  go_enter Tryd.func16, Tryd.ntmps16
  go_wp2_with fail
  refine Hh.out.mono ?_
  rintro e w1 ⟨rfl, hb1⟩
  go_wp2_with fail
  exact bodyPost_ret (v := .tuple #[.slice none 0 0, .int .i64 0, .int .i64 ec, .int .i64 ea]) (by simp [results, Tryd.results16, go_sem]) rfl ⟨rfl, hb1⟩

theorem rs_cond {n s k : Nat} (hs : s ≤ n) (hk : k ≤ 9223372036854775807) (hn : n ≤ 100000) : wrap64 ((n : Int) - (s : Int)) = ((n - s : Nat) : Int) := by
  rw [wrap_in _ ⟨by omega, by omega⟩]; omega

set_option maxRecDepth 100000 in
set_option maxHeartbeats 1000000 in
theorem refsplit_short (a : Option Addr) (n cap p : Nat) (most : Int) (l : List Nat) (w : World) (s k : Nat) (hh : headRes l p most = (s, k, none)) (hs : s ≤ n) (hk : k ≤ 9223372036854775807) (hbad : n - s < k ∨ n - s - k < 4) (hB : Byts w a n cap l) (hp : p ≤ n) (hn : n ≤ 100000) (hm0 : -9223372036854775808 ≤ most) (hm1 : most ≤ 9223372036854775807) :
    Calls Tryd.prog 16 #[.slice a n cap, .int .i64 p, .int .i64 most] w fun e w' =>
      e = .returned (.tuple #[.slice none 0 0, .int .i64 0, .int .i64 5, .int .i64 p]) ∧ Below w.heap.size w w' := by
  have Hh := Lib.hid (refheader_any a n cap p most l w hB hp hn hm0 hm1)
  rw [hh] at Hh
  simp only [errCode, errAt] at Hh
  have hsub := rs_cond hs hk hn
  have hcond := short_cond hk hn true (decide_eq_true hbad).symm
  clear hh hB hm0 hm1 hk hbad hn
  go_enter Tryd.func16, Tryd.ntmps16
  go_wp2_with fail
  refine Hh.out.mono ?_
  rintro e w1 ⟨rfl, hb1⟩
  go_wp2_with fail
  all_goals exact bodyPost_ret (v := .tuple #[.slice none 0 0, .int .i64 0, .int .i64 5, .int .i64 p]) (by simp [results, Tryd.results16, go_sem]) rfl ⟨rfl, hb1⟩

set_option maxRecDepth 100000 in
set_option maxHeartbeats 2000000 in
theorem refsplit_full (b o : Nat) (n cap p : Nat) (most : Int) (l : List Nat) (w : World) (s k : Nat) (hh : headRes l p most = (s, k, none)) (hfit : s + k + 4 ≤ n) (hB : Byts w (some ⟨b, o, none⟩) n cap l) (hp : p ≤ n) (hn : n ≤ 100000) (hm0 : -9223372036854775808 ≤ most) (hm1 : most ≤ 9223372036854775807)
    (r : Bool) (hr : r = decide (sumBytes (sum ((l.drop s).take k)) = (l.drop (s + k)).take 4)) (nx ec wh : Int) (hnx : nx = if r = true then ((s + k + 4 : Nat) : Int) else 0) (hec : ec = if r = true then 0 else 14) (hwh : wh = if r = true then -1 else ((s + k : Nat) : Int)) :
    Calls Tryd.prog 16 #[.slice (some ⟨b, o, none⟩) n cap, .int .i64 p, .int .i64 most] w fun e w' =>
      (∃ v, e = .returned (.tuple #[v, .int .i64 nx, .int .i64 ec, .int .i64 wh])
        ∧ (r = true → w'.ownsRow w.heap.size 5 1 v k (u8s ((l.drop s).take k))) ∧ (r = false → v = .slice none 0 0)) ∧ Below w.heap.size w w' := by
  have Hh := Lib.hid (refheader_any (some ⟨b, o, none⟩) n cap p most l w hB hp hn hm0 hm1)
  rw [hh] at Hh
  simp only [errCode, errAt] at Hh
  have hnc := hB.room
  have hsub := rs_cond (n := n) (s := s) (k := k) (by omega) (by omega) hn
  have hcond := short_cond (n := n) (s := s) (k := k) (by omega) hn false (by rw [eq_comm, decide_eq_false_iff_not]; omega)
  have Hn := Lib.hid hn
  obtain ⟨sk, hsk⟩ : ∃ sk : Nat, sk = s + k := ⟨_, rfl⟩
  have hadd : IntKind.i64.wrap ((s : Int) + (k : Int)) = ((sk : Nat) : Int) := by
    rw [wrapeq, wrap_in _ ⟨by omega, by omega⟩, hsk]; rfl
  have hx0 : Byts w (some ⟨b, o + s, none⟩) (sk - s) (cap - s) ((l.drop s).take k) := by
    have := hB.sub s sk (by omega) (by omega) (by omega)
    rw [show sk - s = k by omega] at this ⊢
    exact this
  have hs : s ≤ sk := by omega
  have hskc : sk ≤ cap := by omega
  have hne : ¬ cap = s := by omega
  have Hx := Lib.hid hx0; have HB := Lib.hid hB; have Hr := Lib.hid hr; have Hfit := Lib.hid hfit; have Hsk := Lib.hid hsk
  have Hnx := Lib.hid hnx; have Hec := Lib.hid hec; have Hwh := Lib.hid hwh
  have hkn1 : k ≤ n - s := by omega
  clear hh hB hm0 hm1 hn hx0 hr hfit hsk hnx hec hwh
  go_enter Tryd.func16, Tryd.ntmps16
  go_wp2_with fail
  refine Hh.out.mono ?_
  rintro e w1 ⟨rfl, hb1⟩
  go_wp2_with fail
  refine (refsum_any _ _ _ _ _ (Hx.out.below hb1)).mono ?_
  rintro e w2 ⟨rfl, rfl⟩
  go_wp2_with fail
  refine (refbytes_any _ _ (sumlt Hx.out.lt)).mono ?_
  rintro e w2 ⟨rfl, rfl⟩
  go_wp2_with fail
  have hA : Below w.heap.size w (w1.alloc (.cells (u8s (sumBytes (sum ((l.drop s).take k)))).toArray 5)) := hb1.alloc hb1.size _
  obtain ⟨S, hS⟩ : ∃ S, S = sumBytes (sum ((l.drop s).take k)) := ⟨_, rfl⟩
  have hSl : S.length = 4 := by rw [hS]; rfl
  have hSlt : ∀ x ∈ S, x < 256 := by rw [hS]; exact sumBytes_lt (sumlt Hx.out.lt)
  rw [← hS] at hA ⊢
  have hBS : Byts (w1.alloc (.cells (u8s S).toArray 5)) (some ⟨w1.heap.size, 0, none⟩) 4 4 S := byts_lit _ _ _ _ _ _ _ rfl hSl rfl hSlt (by omega)
  have HBS := Lib.hid hBS
  have HBl := Lib.hid (HB.out.below hA)
  have HA := Lib.hid hA
  have HS := Lib.hid hS
  have HSl := Lib.hid hSl
  clear hA hBS hS hSl hSlt hb1
  generalize w1.alloc (.cells (u8s S).toArray 5) = W at *
  go_loopw [15] (fun i wr => ∃ j q : Nat, j ≤ 4 ∧ i = .int .i64 j ∧ wr = W.drewN q ∧ Hid (∀ t, t < j → nth S t = nth l (sk + t))) (fun i _ => 4 - (intOf i).toNat)
  case atStart => exact ⟨0, 0, by omega, rfl, rfl, fun t ht => by omega⟩
  case round =>
    obtain ⟨j, q, hj, rfl, rfl, ht⟩ := hrel
    by_cases hj4 : j < 4
    · obtain ⟨g1, o1, e1, hc1⟩ := HBS.out.cells (by omega)
      cases e1
      obtain ⟨g2, o2, e2, hc2⟩ := HBl.out.cells (by have := Hfit.out; omega)
      cases e2
      have hcS := hc1 j hj4
      rw [Nat.zero_add] at hcS
      obtain ⟨sj, hsj⟩ : ∃ sj : Nat, sj = sk + j := ⟨_, rfl⟩
      have hsjn : sj < n := by have := Hfit.out; have := Hsk.out; omega
      have hcl := hc2 sj hsjn
      have hadj : IntKind.i64.wrap ((sk : Int) + (j : Int)) = ((sj : Nat) : Int) := by
        rw [wrapeq, wrap_in _ ⟨by omega, by have := Hn.out; omega⟩, hsj]; rfl
      clear hc1 hc2
      by_cases he : nth l sj = nth S j
      · have Ht := Lib.hid (show ∀ t, t < j + 1 → nth S t = nth l (sk + t) from fun t h => by
          rcases Nat.lt_or_ge t j with h' | h'
          · exact ht.out t h'
          · obtain rfl : t = j := by omega
            rw [← hsj, he])
        rw [he] at hcl
        generalize nth S j = c at *
        clear he hsj
        go_wp2
        go_quiet (fail)
        go_wp2
        go_roundw
        case rel => exact ⟨j + 1, _, by omega, by go_num, rfl, Ht.out⟩
        case measure => simp [intOf]; omega
      · have hrf : r = false := by
          rw [Hr.out]
          refine decide_eq_false fun heq => he ?_
          rw [← HS.out] at heq
          rw [heq, hsj, Hsk.out]
          simp [nth, hj4, Nat.add_assoc]
        have hne2 : (((nth l sj : Nat) : Int) != ((nth S j : Nat) : Int)) = true := by rw [bne_iff_ne]; omega
        subst hrf
        have hnx : nx = 0 := Hnx.out
        have hec : ec = 14 := Hec.out
        have hwh : wh = (sk : Int) := by have := Hwh.out; simp only [Hsk.out]; exact this
        subst hnx hec hwh
        generalize nth S j = c at *
        generalize nth l sj = c' at *
        clear he hsj
        go_wp2
        go_quiet (fail)
        go_wp2
        refine bodyPost_ret (v := .tuple #[.slice none 0 0, .int .i64 0, .int .i64 14, .int .i64 sk]) (by simp [results, Tryd.results16, go_sem]) rfl ?_
        first
          | exact ⟨⟨_, rfl, (by intro h; cases h), fun _ => rfl⟩, belowdrewN HA.out _⟩
          | exact ⟨rfl, belowdrewN HA.out _⟩
    · obtain rfl : j = 4 := by omega
      have hrt : r = true := by
        rw [Hr.out]
        refine decide_eq_true ?_
        rw [← HS.out]
        have h0 := ht.out 0 (by omega)
        have h1 := ht.out 1 (by omega)
        have h2 := ht.out 2 (by omega)
        have h3 := ht.out 3 (by omega)
        have hl := HB.out.len
        have hf := Hfit.out
        have hsk := Hsk.out
        have hS4 := HSl.out
        rw [drop_nth l (s + k) (by omega), drop_nth l (s + k + 1) (by omega), drop_nth l (s + k + 1 + 1) (by omega), drop_nth l (s + k + 1 + 1 + 1) (by omega)]
        simp only [List.take_succ_cons, List.take_zero]
        rcases S with _ | ⟨x0, _ | ⟨x1, _ | ⟨x2, _ | ⟨x3, _ | ⟨x4, S⟩⟩⟩⟩⟩ <;> simp at hS4
        subst hsk
        simp [nth] at h0 h1 h2 h3 ⊢
        exact ⟨h0, h1, h2, h3⟩
      subst hrt
      have hnx : nx = ((s + k + 4 : Nat) : Int) := Hnx.out
      have hec : ec = 0 := Hec.out
      have hwh : wh = -1 := Hwh.out
      have hadd4 : IntKind.i64.wrap ((sk : Int) + 4) = nx := by
        rw [wrapeq, wrap_in _ ⟨by omega, by have := Hn.out; have := Hfit.out; have := Hsk.out; omega⟩, hnx, Hsk.out]
        rfl
      subst hec hwh
      have Hn1 := Lib.hid hnx; clear hnx
      obtain ⟨v5, w5, hr5, ho5, hb5⟩ := run_copy_byts (some ⟨b, o + s, none⟩) (sk - s) (cap - s) _ (Hx.out.below (belowdrewN HA.out q)) (by have := Hn.out; have := Hfit.out; have := Hsk.out; omega)
      have Ho5 := Lib.hid ho5; clear ho5
      go_wp2_with (at_builtin; refine wpList_append_hr _ _ 22 rfl rfl _ _ rfl rfl _ _ hr5 ?_)
      refine bodyPost_ret (v := .tuple #[v5, .int .i64 nx, .int .i64 0, .int .i64 (-1)]) (by simp [results, Tryd.results16, go_sem]) rfl ?_
      have hb6 := (belowdrewN HA.out q).trans (hb5.mono HA.out.size)
      have ho6 := Ho5.out.mono HA.out.size
      rw [show sk - s = k from by have := Hsk.out; omega] at ho6
      exact ⟨⟨v5, rfl, ho6⟩, hb6⟩

end Go.Proofs.YtejcakbkldecmaaDoor
