/- Walks and laws, joined: La22. -/
import Derived.Test.YtkkdlgcfcbaibaaGreatDoorLa21
import Derived.Test.YtkkdlgcfcbaibaaGreatDoorLa14
import Derived.Test.YtkkdlgcfcbaibaaGreatDoorLa20
import Derived.Test.YtkkdlgcfcbaibaaGreatDoorLa10
set_option linter.unusedVariables false
namespace Go.Proofs.YtkkdlgcfcbaibaaGreatDoor
section
open Go.RowKit
theorem isNaNi_any (x : Nat) (w : World) : Calls Tryz.prog 213 #[.int .i64 x] w fun e w' => e = .returned (.bool false) ∧ w' = w := by
 go_enter Tryz.func213, Tryz.ntmps213
 go_wp2
 go_ret
 exact ⟨by simp, rfl⟩
theorem cmpi_any (x y : Nat) (w : World) : Calls Tryz.prog 197 #[.int .i64 x, .int .i64 y] w fun e w' => e = .returned (.int .i64 (if x < y then -1 else if y < x then 1 else 0)) ∧ w' = w := by
 by_cases h1 : x < y
 · rw [if_pos h1]
   go_enter Tryz.func197, Tryz.ntmps197
   go_wp2_with (go_at_call 213; refine (isNaNi_any _ _).mono ?_; rintro e w1 ⟨rfl, rfl⟩)
   go_ret
   exact ⟨rfl, rfl⟩
 · rw [if_neg h1]
   by_cases h2 : y < x
   · rw [if_pos h2]
     go_enter Tryz.func197, Tryz.ntmps197
     go_wp2_with (go_at_call 213; refine (isNaNi_any _ _).mono ?_; rintro e w1 ⟨rfl, rfl⟩)
     go_ret
     exact ⟨rfl, rfl⟩
   · rw [if_neg h2]
     go_enter Tryz.func197, Tryz.ntmps197
     go_wp2_with (go_at_call 213; refine (isNaNi_any _ _).mono ?_; rintro e w1 ⟨rfl, rfl⟩)
     go_ret
     exact ⟨rfl, rfl⟩
set_option maxRecDepth 20000 in
set_option maxHeartbeats 4000000 in
theorem order_any (a d : Option Addr) (N c M c' : Nat) (P R : List Nat) (w : World) (hP : U64s w a N c P) (hR : U64s w d M c' R) :
 Calls Tryz.prog 166 #[.slice a N c, .slice d M c'] w fun e w' => e = .returned (.int .i64 (cmpN P R)) ∧ Below w.heap.size w w' := by
 have HP := Lib.hid hP; have HR := Lib.hid hR
 have HN := Lib.hid hP.len; have HM := Lib.hid hR.len
 have hNm : N ≤ 9223372036854775807 := Nat.le_trans hP.room hP.most
 have hMm : M ≤ 9223372036854775807 := Nat.le_trans hR.room hR.most
 clear hP hR
 obtain ⟨K, hK⟩ : ∃ K : Nat, K = min N M := ⟨_, rfl⟩
 have hK1 : K ≤ N := by omega
 have hK2 : K ≤ M := by omega
 have hK3 : K = N ∨ K = M := by omega
 have hmin : min (N : Int) (M : Int) = (K : Int) := by omega
 have HKc := Lib.hid hK3
 clear hK hK3
 go_enter Tryz.func166, Tryz.ntmps166
 go_wp2
 go_loopw [5, 11] (fun _ i wr => ∃ k : Nat, k ≤ K ∧ i = .int .i64 k ∧ Below w.heap.size w wr ∧ Hid (cmpN P R = cmpN (P.drop k) (R.drop k))) (fun _ i _ => K - (intOf i).toNat)
 case atStart => exact ⟨0, by omega, rfl, Below.refl _ _, rfl⟩
 case round =>
  obtain ⟨k, hk, rfl, hb, ht⟩ := hrel
  have Hb := Lib.hid hb; clear hb
  have h0 : (0 : Int) ≤ k := by omega
  by_cases hkK : k < K
  · have h1 : k < N := by omega
    have h2 : k < M := by omega
    have hst := cmpN_step (p := P) (q := R) (k := k) (by rw [HN.out]; exact h1) (by rw [HM.out]; exact h2)
    have Hst := Lib.hid (ht.out.trans hst)
    obtain ⟨b1, o1, rfl, hc1⟩ := (HP.out.below Hb.out).cells (by omega)
    obtain ⟨b2, o2, rfl, hc2⟩ := (HR.out.below Hb.out).cells (by omega)
    have q1 := hc1 k h1
    have q2 := hc2 k h2
    clear hst hc1 hc2
    generalize nth P k = x at *
    generalize nth R k = y at *
    have h01 : (k : Int) < (N : Int) := by omega
    have h02 : (k : Int) < (M : Int) := by omega
    have h03 : (k : Int) < (K : Int) := by omega
    have hcP := HP.out.room
    have hcR := HR.out.room
    by_cases hxy : x = y
    · subst hxy
      rw [if_neg (Nat.lt_irrefl _), if_neg (Nat.lt_irrefl _)] at Hst
      go_wp2
      go_quiet (fail)
      go_wp2
      go_roundw
      case rel => exact ⟨k + 1, by omega, by go_num, by first | exact Hb.out | exact below_drewN' Hb.out _, Hst.out⟩
      case measure => simp [intOf]; omega
    · have hne : ((x : Int) != (y : Int)) = true := by rw [bne_iff_ne]; omega
      have Hci := Lib.hid (show Lib.compareInt (x : Int) (y : Int) = cmpN P R from by
       rw [Hst.out]
       unfold Lib.compareInt
       by_cases hlt : x < y
       · rw [if_pos (by omega), if_pos hlt]
       · rw [if_neg (by omega), if_neg hlt, if_pos (by omega), if_pos (by omega)])
      have hC := Lib.hid (fun w' => cmp_any x y w')
      rw [Hci.out] at hC
      generalize hzz : cmpN P R = z at *
      have Hzz := Lib.hid hzz
      clear hzz
      have hq1 := Lib.hid (fun w' (h : Below wr.heap.size wr w') => (h.cell (p := ⟨b1, o1 + k, none⟩) (cell_lt q1)).trans q1)
      have hq2 := Lib.hid (fun w' (h : Below wr.heap.size wr w') => (h.cell (p := ⟨b2, o2 + k, none⟩) (cell_lt q2)).trans q2)
      clear hxy
      go_wp2
      go_quiet (fail)
      go_wp2_with fail
      refine wp_region_below (by kernel_rfl) (by kernel_rfl) ?_
      repeat (go_big_quiet_step ((intro hw; first
       | rfl
       | (have q3 := hq1.out _ (by first | exact hw | exact Below.trans (below_drewN' (Below.refl _ _) _) hw)
          have q4 := hq2.out _ (by first | exact hw | exact Below.trans (below_drewN' (Below.refl _ _) _) hw)
          first
          | (go_at_call 41; refine (hC.out _).mono ?_; rintro e w4 ⟨rfl, rfl⟩; exact ⟨rfl, hw⟩)
          | (go_simp
             first | rfl | exact ⟨rfl, hw⟩ | (trace_state; fail))))))
      refine wpQuiet_nil ?_
      intro w3 hb3
      go_wp2
      go_ret
      exact ⟨by rw [Hzz.out]; rfl, Hb.out.trans ((by first | exact hb3 | exact Below.trans (below_drewN' (Below.refl _ _) _) hb3 : Below wr.heap.size wr w3).mono Hb.out.size)⟩
  · obtain rfl : k = K := by omega
    have Hz := Lib.hid (ht.out.trans (cmpN_end (by rw [HN.out]; omega) (by rw [HM.out]; omega) (by rw [HN.out, HM.out]; exact HKc.out)))
    rw [HN.out, HM.out] at Hz
    have hK := Lib.hid (fun w' => cmpi_any N M w')
    obtain ⟨zz, hzz⟩ : ∃ zz : Int, zz = if N < M then -1 else if M < N then 1 else 0 := ⟨_, rfl⟩
    rw [← hzz] at hK Hz
    clear hzz
    go_wp2_with fail
    refine (hK.out _).mono ?_
    rintro e w1 ⟨rfl, rfl⟩
    go_wp2
    go_ret
    exact ⟨by rw [Hz.out]; rfl, Hb.out⟩
theorem vecCompare_any (a d : Option Addr) (n c n' c' : Nat) (v u : Vec) (w : World) (hE : Ents w a n c v) (hF : Ents w d n' c' u) (fv : VecFits v) (fu : VecFits u) :
 Calls Tryz.prog 118 #[.slice a n c, .slice d n' c'] w fun x w' => x = .returned (.int .i64 (cmpV v u)) ∧ Below w.heap.size w w' := by
 have hC := Lib.hid (vecNumbers_any a n c v w hE (by rw [← hE.len]; exact fv.len) (fits_num fv))
 have hD := Lib.hid (fun w' (h : Below w.heap.size w w') => vecNumbers_any d n' c' u w' (hF.below h) (by rw [← hF.len]; exact fu.len) (fits_num fu))
 have Hpl := Lib.hid (lt_num hE.lt fv); have Hql := Lib.hid (lt_num hF.lt fu)
 have Hcv := Lib.hid (show cmpV v u = cmpN (numV v) (numV u) from rfl)
 clear hE hF fv fu
 generalize numV v = P at *
 generalize numV u = R at *
 go_enter Tryz.func118, Tryz.ntmps118
 go_wp2_with fail
 refine hC.out.mono ?_
 rintro e w1 ⟨⟨y, rfl, ho1⟩, hb1⟩
 have Hb1 := Lib.hid hb1
 obtain ⟨aP, cP, rfl, hU1⟩ := u64s_own ho1 Hpl.out
 have HU1 := Lib.hid hU1
 clear hb1 ho1 hU1
 go_wp2_with fail
 refine (hD.out _ Hb1.out).mono ?_
 rintro e w2 ⟨⟨y, rfl, ho2⟩, hb2⟩
 have Hb2 := Lib.hid (Hb1.out.trans (hb2.mono Hb1.out.size))
 obtain ⟨aR, cR, rfl, hU2⟩ := u64s_own ho2 Hql.out
 have HUp := Lib.hid (HU1.out.below hb2)
 have HUr := Lib.hid hU2
 clear hb2 ho2 hU2
 go_wp2_with fail
 refine (order_any _ _ _ _ _ _ P R _ HUp.out HUr.out).mono ?_
 rintro e w3 ⟨rfl, hb3⟩
 have Hb3 := Lib.hid (Hb2.out.trans (hb3.mono Hb2.out.size)); clear hb3
 go_wp2
 go_ret
 exact ⟨by rw [Hcv.out]; rfl, Hb3.out⟩
end
section
open Go.RowKit
def brk (k : Kno) (i : Nat) (B : List Iv) (n : Nat) : Bool := match n with
 | 0 => decide ((nthF k i).1 = [] ∨ (nthF k i).2 = [])
 | 1 => !canVB (nthF k i).2
 | 2 => !disjL (nthF k i).1 B
 | _ => decide (0 < i ∧ cmpV (nthF k (i - 1)).2 (nthF k i).2 ≠ -1)
def codeR (n : Nat) : Nat := match n with | 0 => 9 | 1 => 10 | 2 => 10 | _ => 3
attribute [local go_sem] run_store_fn
end
section
open Go.RowKit
attribute [local go_sem] run_store_fn
def Codes (w : World) : Prop := ∀ n, n < 4 → w.cell? ⟨0, n, none⟩ = some (.int .i64 (codeR n))
theorem Codes.below {w w' : World} (h : Codes w) (hb : Below w.heap.size w w') : Codes w' := fun n hn =>
 (hb.cell (p := ⟨0, n, none⟩) (cell_lt (h n hn))).trans (h n hn)
theorem wpList_index_st {P : Program} {w : World} {ops : Array Oper} {rest : List Oper} {o : Oper} {a : Act} {Q : Exit → Act → World → Prop} (ty : TypeId) (x ix : Operand)
 (ho : o.op = .index ty x ix) (hg : o.guard = none) (cs : Array Value) (k len : Nat) (e : TypeId) (fs) (v : Value)
 (hx : a.eval x = .agg cs) (hix : a.eval ix = .int .i64 (k : Int)) (hu : P.underlying ty = some (.array len e)) (hk : k < len) (he : P.underlying e = some (.struct fs)) (hi : (P.info? e).map (·.size) = some 1)
 (hv : cs[k]? = some v) (h : wpList P ops Q rest (a.put o.dst (.agg #[v])) w) : wpList P ops Q (o :: rest) a w := by
 refine wpList_plain hg fun K hK => ?_
 have hex : cs.extract k (k + 1) = #[v] := by
  obtain ⟨h1, h2⟩ := Array.getElem?_eq_some_iff.1 hv
  apply Array.ext_getElem?
  intro i
  rw [Array.getElem?_extract]
  cases i with
  | zero => simp [hv]; omega
  | succ i => simp; omega
 cases hq : P.info? e with
 | none => simp [hq] at hi
 | some i =>
  have hsz : i.size = 1 := by simpa [hq] using hi
  unfold Oper.wp execOp
  simp only [ho, hx, hix, Instr.index, asIntOf, Sem.run_bind, Sem.run_pure, Result.andThen_ok, run_underlying hu]
  have hk' : 0 ≤ (k : Int) ∧ (k : Int) < (len : Int) := ⟨by omega, by omega⟩
  simp [Sem.run_bind, part, isAgg, sizeOf, typeInfo, run_underlying he, hq, hsz, hk', hex]
  exact hK _ _ h
end
section
open Go.RowKit
attribute [local go_sem] run_store_fn
abbrev Lim := Int × Int × Int × Int × Int
def limV (l : Lim) : Value := .agg #[.int .i64 l.1, .int .i64 l.2.1, .int .i64 l.2.2.1, .int .i64 l.2.2.2.1, .int .i64 l.2.2.2.2]
def limAt (l : Lim) : Nat → Int
 | 0 => l.1
 | 1 => l.2.1
 | 2 => l.2.2.1
 | 3 => l.2.2.2.1
 | _ => l.2.2.2.2
def limX (a b : Lim) : Option Nat := firstS (fun i => if limAt b i < limAt a i then some i else none) 5
def limK (a : Lim) : Option Nat := firstS (fun i => if limAt a i < 0 then some i else none) 5
def limJ (a b : Lim) : Lim := (max a.1 b.1, max a.2.1 b.2.1, max a.2.2.1 b.2.2.1, max a.2.2.2.1 b.2.2.2.1, max a.2.2.2.2 b.2.2.2.2)
def LimAt (w : World) (g : Nat) (l : Lim) : Prop := ∀ i, i < 5 → w.cell? ⟨g, i, none⟩ = some (.int .i64 (limAt l i))
theorem box5 (w : World) (x y z u v : Value) (T : TypeId) (w' : World) (h : Below (w.alloc (.cells #[x, y, z, u, v] T)).heap.size (w.alloc (.cells #[x, y, z, u, v] T)) w') :
 w'.cell? ⟨w.heap.size, 0, none⟩ = some x ∧ w'.cell? ⟨w.heap.size, 1, none⟩ = some y ∧ w'.cell? ⟨w.heap.size, 2, none⟩ = some z ∧ w'.cell? ⟨w.heap.size, 3, none⟩ = some u ∧ w'.cell? ⟨w.heap.size, 4, none⟩ = some v := by
 have hrow : (w.alloc (.cells #[x, y, z, u, v] T)).heap[w.heap.size]? = some (.cells #[x, y, z, u, v] T) := row_new rfl
 exact ⟨(h.cell (p := ⟨w.heap.size, 0, none⟩) (by simp)).trans (cells_cell (i := 0) hrow rfl), (h.cell (p := ⟨w.heap.size, 1, none⟩) (by simp)).trans (cells_cell (i := 1) hrow rfl), (h.cell (p := ⟨w.heap.size, 2, none⟩) (by simp)).trans (cells_cell (i := 2) hrow rfl),
  (h.cell (p := ⟨w.heap.size, 3, none⟩) (by simp)).trans (cells_cell (i := 3) hrow rfl), (h.cell (p := ⟨w.heap.size, 4, none⟩) (by simp)).trans (cells_cell (i := 4) hrow rfl)⟩
theorem limAt_box (w : World) (l : Lim) (T : TypeId) (w' : World) (h : Below (w.alloc (.cells #[.int .i64 l.1, .int .i64 l.2.1, .int .i64 l.2.2.1, .int .i64 l.2.2.2.1, .int .i64 l.2.2.2.2] T)).heap.size (w.alloc (.cells #[.int .i64 l.1, .int .i64 l.2.1, .int .i64 l.2.2.1, .int .i64 l.2.2.2.1, .int .i64 l.2.2.2.2] T)) w') : LimAt w' w.heap.size l := by
 obtain ⟨h0, h1, h2, h3, h4⟩ := box5 w _ _ _ _ _ T w' h
 intro i hi
 rcases (by omega : i = 0 ∨ i = 1 ∨ i = 2 ∨ i = 3 ∨ i = 4) with rfl | rfl | rfl | rfl | rfl
 · exact h0
 · exact h1
 · exact h2
 · exact h3
 · exact h4
def fieldV (f : FuncId) : Value := .func (.func f) #[] #[]
def fieldsV : Value := .agg #[fieldV 84, fieldV 85, fieldV 86, fieldV 87, fieldV 88]
theorem fields_any (w : World) : Calls Tryz.prog 49 #[] w fun x w' => x = .returned fieldsV ∧ Below w.heap.size w w' := by
 go_enter Tryz.func49, Tryz.ntmps49
 go_wp2
 refine bodyPost_ret (v := fieldsV) (by simp [results, Tryz.results49, go_sem]; rfl) rfl ?_
 exact ⟨rfl, (Below.refl _ _).alloc (Nat.le_refl _) _⟩
theorem field0_any (g : Nat) (w : World) : Calls Tryz.prog 84 #[.pointer (some ⟨g, 0, none⟩)] w fun x w' => x = .returned (.pointer (some ⟨g, 0, none⟩)) ∧ w = w' := by
 go_enter Tryz.func84, Tryz.ntmps84
 go_wp2
 go_ret
 exact ⟨rfl, rfl⟩
theorem field1_any (g : Nat) (w : World) : Calls Tryz.prog 85 #[.pointer (some ⟨g, 0, none⟩)] w fun x w' => x = .returned (.pointer (some ⟨g, 1, none⟩)) ∧ w = w' := by
 go_enter Tryz.func85, Tryz.ntmps85
 go_wp2
 go_ret
 exact ⟨rfl, rfl⟩
theorem field2_any (g : Nat) (w : World) : Calls Tryz.prog 86 #[.pointer (some ⟨g, 0, none⟩)] w fun x w' => x = .returned (.pointer (some ⟨g, 2, none⟩)) ∧ w = w' := by
 go_enter Tryz.func86, Tryz.ntmps86
 go_wp2
 go_ret
 exact ⟨rfl, rfl⟩
theorem field3_any (g : Nat) (w : World) : Calls Tryz.prog 87 #[.pointer (some ⟨g, 0, none⟩)] w fun x w' => x = .returned (.pointer (some ⟨g, 3, none⟩)) ∧ w = w' := by
 go_enter Tryz.func87, Tryz.ntmps87
 go_wp2
 go_ret
 exact ⟨rfl, rfl⟩
theorem field4_any (g : Nat) (w : World) : Calls Tryz.prog 88 #[.pointer (some ⟨g, 0, none⟩)] w fun x w' => x = .returned (.pointer (some ⟨g, 4, none⟩)) ∧ w = w' := by
 go_enter Tryz.func88, Tryz.ntmps88
 go_wp2
 go_ret
 exact ⟨rfl, rfl⟩
theorem sizeField : (Tryz.prog.info? 88).map (·.size) = some 1 := by kernel_rfl
set_option maxRecDepth 100000 in
set_option maxHeartbeats 8000000 in
theorem exceeds_any (a b : Lim) (w : World) :
 Calls Tryz.prog 54 #[limV a, limV b] w fun x w' => x = .returned (.int .i64 (intO (limX a b))) ∧ Below w.heap.size w w' := by
 have hal1 : Below w.heap.size w (w.alloc (.cells #[.int .i64 a.1, .int .i64 a.2.1, .int .i64 a.2.2.1, .int .i64 a.2.2.2.1, .int .i64 a.2.2.2.2] 47)) := (Below.refl _ _).alloc (Nat.le_refl _) _
 have hal2 : Below (w.alloc (.cells #[.int .i64 a.1, .int .i64 a.2.1, .int .i64 a.2.2.1, .int .i64 a.2.2.2.1, .int .i64 a.2.2.2.2] 47)).heap.size (w.alloc (.cells #[.int .i64 a.1, .int .i64 a.2.1, .int .i64 a.2.2.1, .int .i64 a.2.2.2.1, .int .i64 a.2.2.2.2] 47)) ((w.alloc (.cells #[.int .i64 a.1, .int .i64 a.2.1, .int .i64 a.2.2.1, .int .i64 a.2.2.2.1, .int .i64 a.2.2.2.2] 47)).alloc (.cells #[.int .i64 b.1, .int .i64 b.2.1, .int .i64 b.2.2.1, .int .i64 b.2.2.2.1, .int .i64 b.2.2.2.2] 47)) := (Below.refl _ _).alloc (Nat.le_refl _) _
 have HA := Lib.hid (fun w' (h : Below ((w.alloc (.cells #[.int .i64 a.1, .int .i64 a.2.1, .int .i64 a.2.2.1, .int .i64 a.2.2.2.1, .int .i64 a.2.2.2.2] 47)).alloc (.cells #[.int .i64 b.1, .int .i64 b.2.1, .int .i64 b.2.2.1, .int .i64 b.2.2.2.1, .int .i64 b.2.2.2.2] 47)).heap.size ((w.alloc (.cells #[.int .i64 a.1, .int .i64 a.2.1, .int .i64 a.2.2.1, .int .i64 a.2.2.2.1, .int .i64 a.2.2.2.2] 47)).alloc (.cells #[.int .i64 b.1, .int .i64 b.2.1, .int .i64 b.2.2.1, .int .i64 b.2.2.2.1, .int .i64 b.2.2.2.2] 47)) w') => limAt_box w a 47 w' (hal2.trans (h.mono hal2.size)))
 have HB := Lib.hid (fun w' (h : Below ((w.alloc (.cells #[.int .i64 a.1, .int .i64 a.2.1, .int .i64 a.2.2.1, .int .i64 a.2.2.2.1, .int .i64 a.2.2.2.2] 47)).alloc (.cells #[.int .i64 b.1, .int .i64 b.2.1, .int .i64 b.2.2.1, .int .i64 b.2.2.2.1, .int .i64 b.2.2.2.2] 47)).heap.size ((w.alloc (.cells #[.int .i64 a.1, .int .i64 a.2.1, .int .i64 a.2.2.1, .int .i64 a.2.2.2.1, .int .i64 a.2.2.2.2] 47)).alloc (.cells #[.int .i64 b.1, .int .i64 b.2.1, .int .i64 b.2.2.1, .int .i64 b.2.2.2.1, .int .i64 b.2.2.2.2] 47)) w') => show LimAt w' (w.heap.size + 1) b from by
  have := limAt_box (w.alloc (.cells #[.int .i64 a.1, .int .i64 a.2.1, .int .i64 a.2.2.1, .int .i64 a.2.2.2.1, .int .i64 a.2.2.2.2] 47)) b 47 w' h
  rwa [World.size_alloc] at this)
 have Hal := Lib.hid (hal1.trans (hal2.mono hal1.size))
 have Hx := Lib.hid (show limX a b = firstS (fun i => if limAt b i < limAt a i then some i else none) 5 from rfl)
 unfold limV
 clear hal1 hal2
 go_enter Tryz.func54, Tryz.ntmps54
 go_wp2_with fail
 generalize hW : (w.alloc (.cells #[.int .i64 a.1, .int .i64 a.2.1, .int .i64 a.2.2.1, .int .i64 a.2.2.2.1, .int .i64 a.2.2.2.2] 47)).alloc (.cells #[.int .i64 b.1, .int .i64 b.2.1, .int .i64 b.2.2.1, .int .i64 b.2.2.2.1, .int .i64 b.2.2.2.2] 47) = W at *
 clear hW
 refine (fields_any _).mono ?_
 rintro e w1 ⟨rfl, hb1⟩
 have Hb1 := Lib.hid hb1; clear hb1
 unfold fieldsV fieldV
 go_wp2
 go_loopw [5, 6, 8] (fun _ _ i wr => ∃ q : Nat, q ≤ 5 ∧ i = .int .i64 q ∧ Below W.heap.size W wr ∧ Hid (∀ j, j < q → (if limAt b j < limAt a j then some j else none) = none)) (fun _ _ i _ => 5 - (intOf i).toNat)
 case atStart => exact ⟨0, by omega, rfl, Hb1.out, fun j h => by omega⟩
 case round =>
  obtain ⟨q, hq5, rfl, hb, ht⟩ := hrel
  have Hb := Lib.hid hb; clear hb
  by_cases hq : q < 5
  · rcases (by omega : q = 0 ∨ q = 1 ∨ q = 2 ∨ q = 3 ∨ q = 4) with rfl | rfl | rfl | rfl | rfl
    · by_cases h : limAt b 0 < limAt a 0
      · have hd1 : decide (limAt b 0 < limAt a 0) = true := decide_eq_true h
        have Hr := Lib.hid (firstS_some (show 0 < 5 by omega) ht.out (if_pos h))
        clear h hq
        have Hal2 := Lib.hid (Hb.out.alloc Hb.out.size (.cells #[fieldV 84] 88))
        have HAr := Lib.hid (fun w' (h : Below (wr.alloc (.cells #[fieldV 84] 88)).heap.size (wr.alloc (.cells #[fieldV 84] 88)) w') => HA.out w' (Hal2.out.trans (h.mono Hal2.out.size)) 0 (by omega))
        have HBr := Lib.hid (fun w' (h : Below (wr.alloc (.cells #[fieldV 84] 88)).heap.size (wr.alloc (.cells #[fieldV 84] 88)) w') => HB.out w' (Hal2.out.trans (h.mono Hal2.out.size)) 0 (by omega))
        have HX := Lib.hid (fun w' (h : Below (wr.alloc (.cells #[fieldV 84] 88)).heap.size (wr.alloc (.cells #[fieldV 84] 88)) w') => show w'.cell? ⟨wr.heap.size, 0, none⟩ = some (.func (.func 84) #[] #[]) from (h.cell (p := ⟨wr.heap.size, 0, none⟩) (by simp)).trans (cells_cell (i := 0) (row_new rfl) rfl))
        generalize limAt a 0 = xa at *
        generalize limAt b 0 = xb at *
        unfold fieldV at Hal2 HAr HBr HX
        go_wp2_with (refine wpList_index_st _ _ _ rfl rfl _ 0 5 88 _ _ rfl rfl Tryz.underlying89 (by omega) Tryz.underlying88 sizeField rfl ?_)
        generalize wr.alloc (.cells #[.func (.func 84) #[] #[]] 88) = wq at *
        refine wp_region_below (by kernel_rfl) (by kernel_rfl) ?_
        repeat (go_big_quiet_step ((intro hw; first
         | rfl
         | (have y1 := HAr.out _ hw
            have y2 := HBr.out _ hw
            have y3 := HX.out _ hw
            first
            | (go_at_call 84; refine (field0_any _ _).mono ?_; rintro e w4 ⟨rfl, rfl⟩; exact ⟨rfl, hw⟩)
            | (go_simp
               first | rfl | exact ⟨rfl, hw⟩ | (trace_state; fail))))))
        refine wpQuiet_nil ?_
        intro w3 hb3
        go_wp2
        go_ret
        exact ⟨by rw [Hx.out, Hr.out]; rfl, Hal.out.trans ((Hal2.out.trans (hb3.mono Hal2.out.size)).mono Hal.out.size)⟩
      · have hd1 : decide (limAt b 0 < limAt a 0) = false := decide_eq_false h
        have Hr := Lib.hid (firstS_step ht.out (if_neg h))
        clear h hq
        have Hal2 := Lib.hid (Hb.out.alloc Hb.out.size (.cells #[fieldV 84] 88))
        have HAr := Lib.hid (fun w' (h : Below (wr.alloc (.cells #[fieldV 84] 88)).heap.size (wr.alloc (.cells #[fieldV 84] 88)) w') => HA.out w' (Hal2.out.trans (h.mono Hal2.out.size)) 0 (by omega))
        have HBr := Lib.hid (fun w' (h : Below (wr.alloc (.cells #[fieldV 84] 88)).heap.size (wr.alloc (.cells #[fieldV 84] 88)) w') => HB.out w' (Hal2.out.trans (h.mono Hal2.out.size)) 0 (by omega))
        have HX := Lib.hid (fun w' (h : Below (wr.alloc (.cells #[fieldV 84] 88)).heap.size (wr.alloc (.cells #[fieldV 84] 88)) w') => show w'.cell? ⟨wr.heap.size, 0, none⟩ = some (.func (.func 84) #[] #[]) from (h.cell (p := ⟨wr.heap.size, 0, none⟩) (by simp)).trans (cells_cell (i := 0) (row_new rfl) rfl))
        generalize limAt a 0 = xa at *
        generalize limAt b 0 = xb at *
        unfold fieldV at Hal2 HAr HBr HX
        go_wp2_with (refine wpList_index_st _ _ _ rfl rfl _ 0 5 88 _ _ rfl rfl Tryz.underlying89 (by omega) Tryz.underlying88 sizeField rfl ?_)
        generalize wr.alloc (.cells #[.func (.func 84) #[] #[]] 88) = wq at *
        refine wp_region_below (by kernel_rfl) (by kernel_rfl) ?_
        repeat (go_big_quiet_step ((intro hw; first
         | rfl
         | (have y1 := HAr.out _ hw
            have y2 := HBr.out _ hw
            have y3 := HX.out _ hw
            first
            | (go_at_call 84; refine (field0_any _ _).mono ?_; rintro e w4 ⟨rfl, rfl⟩; exact ⟨rfl, hw⟩)
            | (go_simp
               first | rfl | exact ⟨rfl, hw⟩ | (trace_state; fail))))))
        refine wpQuiet_nil ?_
        intro w3 hb3
        go_wp2
        go_roundw
        case rel => exact ⟨1, by omega, by go_num, Hal2.out.trans (hb3.mono Hal2.out.size), Hr.out⟩
        case measure => simp [intOf]
    · by_cases h : limAt b 1 < limAt a 1
      · have hd1 : decide (limAt b 1 < limAt a 1) = true := decide_eq_true h
        have Hr := Lib.hid (firstS_some (show 1 < 5 by omega) ht.out (if_pos h))
        clear h hq
        have Hal2 := Lib.hid (Hb.out.alloc Hb.out.size (.cells #[fieldV 85] 88))
        have HAr := Lib.hid (fun w' (h : Below (wr.alloc (.cells #[fieldV 85] 88)).heap.size (wr.alloc (.cells #[fieldV 85] 88)) w') => HA.out w' (Hal2.out.trans (h.mono Hal2.out.size)) 1 (by omega))
        have HBr := Lib.hid (fun w' (h : Below (wr.alloc (.cells #[fieldV 85] 88)).heap.size (wr.alloc (.cells #[fieldV 85] 88)) w') => HB.out w' (Hal2.out.trans (h.mono Hal2.out.size)) 1 (by omega))
        have HX := Lib.hid (fun w' (h : Below (wr.alloc (.cells #[fieldV 85] 88)).heap.size (wr.alloc (.cells #[fieldV 85] 88)) w') => show w'.cell? ⟨wr.heap.size, 0, none⟩ = some (.func (.func 85) #[] #[]) from (h.cell (p := ⟨wr.heap.size, 0, none⟩) (by simp)).trans (cells_cell (i := 0) (row_new rfl) rfl))
        generalize limAt a 1 = xa at *
        generalize limAt b 1 = xb at *
        unfold fieldV at Hal2 HAr HBr HX
        go_wp2_with (refine wpList_index_st _ _ _ rfl rfl _ 1 5 88 _ _ rfl rfl Tryz.underlying89 (by omega) Tryz.underlying88 sizeField rfl ?_)
        generalize wr.alloc (.cells #[.func (.func 85) #[] #[]] 88) = wq at *
        refine wp_region_below (by kernel_rfl) (by kernel_rfl) ?_
        repeat (go_big_quiet_step ((intro hw; first
         | rfl
         | (have y1 := HAr.out _ hw
            have y2 := HBr.out _ hw
            have y3 := HX.out _ hw
            first
            | (go_at_call 85; refine (field1_any _ _).mono ?_; rintro e w4 ⟨rfl, rfl⟩; exact ⟨rfl, hw⟩)
            | (go_simp
               first | rfl | exact ⟨rfl, hw⟩ | (trace_state; fail))))))
        refine wpQuiet_nil ?_
        intro w3 hb3
        go_wp2
        go_ret
        exact ⟨by rw [Hx.out, Hr.out]; rfl, Hal.out.trans ((Hal2.out.trans (hb3.mono Hal2.out.size)).mono Hal.out.size)⟩
      · have hd1 : decide (limAt b 1 < limAt a 1) = false := decide_eq_false h
        have Hr := Lib.hid (firstS_step ht.out (if_neg h))
        clear h hq
        have Hal2 := Lib.hid (Hb.out.alloc Hb.out.size (.cells #[fieldV 85] 88))
        have HAr := Lib.hid (fun w' (h : Below (wr.alloc (.cells #[fieldV 85] 88)).heap.size (wr.alloc (.cells #[fieldV 85] 88)) w') => HA.out w' (Hal2.out.trans (h.mono Hal2.out.size)) 1 (by omega))
        have HBr := Lib.hid (fun w' (h : Below (wr.alloc (.cells #[fieldV 85] 88)).heap.size (wr.alloc (.cells #[fieldV 85] 88)) w') => HB.out w' (Hal2.out.trans (h.mono Hal2.out.size)) 1 (by omega))
        have HX := Lib.hid (fun w' (h : Below (wr.alloc (.cells #[fieldV 85] 88)).heap.size (wr.alloc (.cells #[fieldV 85] 88)) w') => show w'.cell? ⟨wr.heap.size, 0, none⟩ = some (.func (.func 85) #[] #[]) from (h.cell (p := ⟨wr.heap.size, 0, none⟩) (by simp)).trans (cells_cell (i := 0) (row_new rfl) rfl))
        generalize limAt a 1 = xa at *
        generalize limAt b 1 = xb at *
        unfold fieldV at Hal2 HAr HBr HX
        go_wp2_with (refine wpList_index_st _ _ _ rfl rfl _ 1 5 88 _ _ rfl rfl Tryz.underlying89 (by omega) Tryz.underlying88 sizeField rfl ?_)
        generalize wr.alloc (.cells #[.func (.func 85) #[] #[]] 88) = wq at *
        refine wp_region_below (by kernel_rfl) (by kernel_rfl) ?_
        repeat (go_big_quiet_step ((intro hw; first
         | rfl
         | (have y1 := HAr.out _ hw
            have y2 := HBr.out _ hw
            have y3 := HX.out _ hw
            first
            | (go_at_call 85; refine (field1_any _ _).mono ?_; rintro e w4 ⟨rfl, rfl⟩; exact ⟨rfl, hw⟩)
            | (go_simp
               first | rfl | exact ⟨rfl, hw⟩ | (trace_state; fail))))))
        refine wpQuiet_nil ?_
        intro w3 hb3
        go_wp2
        go_roundw
        case rel => exact ⟨2, by omega, by go_num, Hal2.out.trans (hb3.mono Hal2.out.size), Hr.out⟩
        case measure => simp [intOf]
    · by_cases h : limAt b 2 < limAt a 2
      · have hd1 : decide (limAt b 2 < limAt a 2) = true := decide_eq_true h
        have Hr := Lib.hid (firstS_some (show 2 < 5 by omega) ht.out (if_pos h))
        clear h hq
        have Hal2 := Lib.hid (Hb.out.alloc Hb.out.size (.cells #[fieldV 86] 88))
        have HAr := Lib.hid (fun w' (h : Below (wr.alloc (.cells #[fieldV 86] 88)).heap.size (wr.alloc (.cells #[fieldV 86] 88)) w') => HA.out w' (Hal2.out.trans (h.mono Hal2.out.size)) 2 (by omega))
        have HBr := Lib.hid (fun w' (h : Below (wr.alloc (.cells #[fieldV 86] 88)).heap.size (wr.alloc (.cells #[fieldV 86] 88)) w') => HB.out w' (Hal2.out.trans (h.mono Hal2.out.size)) 2 (by omega))
        have HX := Lib.hid (fun w' (h : Below (wr.alloc (.cells #[fieldV 86] 88)).heap.size (wr.alloc (.cells #[fieldV 86] 88)) w') => show w'.cell? ⟨wr.heap.size, 0, none⟩ = some (.func (.func 86) #[] #[]) from (h.cell (p := ⟨wr.heap.size, 0, none⟩) (by simp)).trans (cells_cell (i := 0) (row_new rfl) rfl))
        generalize limAt a 2 = xa at *
        generalize limAt b 2 = xb at *
        unfold fieldV at Hal2 HAr HBr HX
        go_wp2_with (refine wpList_index_st _ _ _ rfl rfl _ 2 5 88 _ _ rfl rfl Tryz.underlying89 (by omega) Tryz.underlying88 sizeField rfl ?_)
        generalize wr.alloc (.cells #[.func (.func 86) #[] #[]] 88) = wq at *
        refine wp_region_below (by kernel_rfl) (by kernel_rfl) ?_
        repeat (go_big_quiet_step ((intro hw; first
         | rfl
         | (have y1 := HAr.out _ hw
            have y2 := HBr.out _ hw
            have y3 := HX.out _ hw
            first
            | (go_at_call 86; refine (field2_any _ _).mono ?_; rintro e w4 ⟨rfl, rfl⟩; exact ⟨rfl, hw⟩)
            | (go_simp
               first | rfl | exact ⟨rfl, hw⟩ | (trace_state; fail))))))
        refine wpQuiet_nil ?_
        intro w3 hb3
        go_wp2
        go_ret
        exact ⟨by rw [Hx.out, Hr.out]; rfl, Hal.out.trans ((Hal2.out.trans (hb3.mono Hal2.out.size)).mono Hal.out.size)⟩
      · have hd1 : decide (limAt b 2 < limAt a 2) = false := decide_eq_false h
        have Hr := Lib.hid (firstS_step ht.out (if_neg h))
        clear h hq
        have Hal2 := Lib.hid (Hb.out.alloc Hb.out.size (.cells #[fieldV 86] 88))
        have HAr := Lib.hid (fun w' (h : Below (wr.alloc (.cells #[fieldV 86] 88)).heap.size (wr.alloc (.cells #[fieldV 86] 88)) w') => HA.out w' (Hal2.out.trans (h.mono Hal2.out.size)) 2 (by omega))
        have HBr := Lib.hid (fun w' (h : Below (wr.alloc (.cells #[fieldV 86] 88)).heap.size (wr.alloc (.cells #[fieldV 86] 88)) w') => HB.out w' (Hal2.out.trans (h.mono Hal2.out.size)) 2 (by omega))
        have HX := Lib.hid (fun w' (h : Below (wr.alloc (.cells #[fieldV 86] 88)).heap.size (wr.alloc (.cells #[fieldV 86] 88)) w') => show w'.cell? ⟨wr.heap.size, 0, none⟩ = some (.func (.func 86) #[] #[]) from (h.cell (p := ⟨wr.heap.size, 0, none⟩) (by simp)).trans (cells_cell (i := 0) (row_new rfl) rfl))
        generalize limAt a 2 = xa at *
        generalize limAt b 2 = xb at *
        unfold fieldV at Hal2 HAr HBr HX
        go_wp2_with (refine wpList_index_st _ _ _ rfl rfl _ 2 5 88 _ _ rfl rfl Tryz.underlying89 (by omega) Tryz.underlying88 sizeField rfl ?_)
        generalize wr.alloc (.cells #[.func (.func 86) #[] #[]] 88) = wq at *
        refine wp_region_below (by kernel_rfl) (by kernel_rfl) ?_
        repeat (go_big_quiet_step ((intro hw; first
         | rfl
         | (have y1 := HAr.out _ hw
            have y2 := HBr.out _ hw
            have y3 := HX.out _ hw
            first
            | (go_at_call 86; refine (field2_any _ _).mono ?_; rintro e w4 ⟨rfl, rfl⟩; exact ⟨rfl, hw⟩)
            | (go_simp
               first | rfl | exact ⟨rfl, hw⟩ | (trace_state; fail))))))
        refine wpQuiet_nil ?_
        intro w3 hb3
        go_wp2
        go_roundw
        case rel => exact ⟨3, by omega, by go_num, Hal2.out.trans (hb3.mono Hal2.out.size), Hr.out⟩
        case measure => simp [intOf]
    · by_cases h : limAt b 3 < limAt a 3
      · have hd1 : decide (limAt b 3 < limAt a 3) = true := decide_eq_true h
        have Hr := Lib.hid (firstS_some (show 3 < 5 by omega) ht.out (if_pos h))
        clear h hq
        have Hal2 := Lib.hid (Hb.out.alloc Hb.out.size (.cells #[fieldV 87] 88))
        have HAr := Lib.hid (fun w' (h : Below (wr.alloc (.cells #[fieldV 87] 88)).heap.size (wr.alloc (.cells #[fieldV 87] 88)) w') => HA.out w' (Hal2.out.trans (h.mono Hal2.out.size)) 3 (by omega))
        have HBr := Lib.hid (fun w' (h : Below (wr.alloc (.cells #[fieldV 87] 88)).heap.size (wr.alloc (.cells #[fieldV 87] 88)) w') => HB.out w' (Hal2.out.trans (h.mono Hal2.out.size)) 3 (by omega))
        have HX := Lib.hid (fun w' (h : Below (wr.alloc (.cells #[fieldV 87] 88)).heap.size (wr.alloc (.cells #[fieldV 87] 88)) w') => show w'.cell? ⟨wr.heap.size, 0, none⟩ = some (.func (.func 87) #[] #[]) from (h.cell (p := ⟨wr.heap.size, 0, none⟩) (by simp)).trans (cells_cell (i := 0) (row_new rfl) rfl))
        generalize limAt a 3 = xa at *
        generalize limAt b 3 = xb at *
        unfold fieldV at Hal2 HAr HBr HX
        go_wp2_with (refine wpList_index_st _ _ _ rfl rfl _ 3 5 88 _ _ rfl rfl Tryz.underlying89 (by omega) Tryz.underlying88 sizeField rfl ?_)
        generalize wr.alloc (.cells #[.func (.func 87) #[] #[]] 88) = wq at *
        refine wp_region_below (by kernel_rfl) (by kernel_rfl) ?_
        repeat (go_big_quiet_step ((intro hw; first
         | rfl
         | (have y1 := HAr.out _ hw
            have y2 := HBr.out _ hw
            have y3 := HX.out _ hw
            first
            | (go_at_call 87; refine (field3_any _ _).mono ?_; rintro e w4 ⟨rfl, rfl⟩; exact ⟨rfl, hw⟩)
            | (go_simp
               first | rfl | exact ⟨rfl, hw⟩ | (trace_state; fail))))))
        refine wpQuiet_nil ?_
        intro w3 hb3
        go_wp2
        go_ret
        exact ⟨by rw [Hx.out, Hr.out]; rfl, Hal.out.trans ((Hal2.out.trans (hb3.mono Hal2.out.size)).mono Hal.out.size)⟩
      · have hd1 : decide (limAt b 3 < limAt a 3) = false := decide_eq_false h
        have Hr := Lib.hid (firstS_step ht.out (if_neg h))
        clear h hq
        have Hal2 := Lib.hid (Hb.out.alloc Hb.out.size (.cells #[fieldV 87] 88))
        have HAr := Lib.hid (fun w' (h : Below (wr.alloc (.cells #[fieldV 87] 88)).heap.size (wr.alloc (.cells #[fieldV 87] 88)) w') => HA.out w' (Hal2.out.trans (h.mono Hal2.out.size)) 3 (by omega))
        have HBr := Lib.hid (fun w' (h : Below (wr.alloc (.cells #[fieldV 87] 88)).heap.size (wr.alloc (.cells #[fieldV 87] 88)) w') => HB.out w' (Hal2.out.trans (h.mono Hal2.out.size)) 3 (by omega))
        have HX := Lib.hid (fun w' (h : Below (wr.alloc (.cells #[fieldV 87] 88)).heap.size (wr.alloc (.cells #[fieldV 87] 88)) w') => show w'.cell? ⟨wr.heap.size, 0, none⟩ = some (.func (.func 87) #[] #[]) from (h.cell (p := ⟨wr.heap.size, 0, none⟩) (by simp)).trans (cells_cell (i := 0) (row_new rfl) rfl))
        generalize limAt a 3 = xa at *
        generalize limAt b 3 = xb at *
        unfold fieldV at Hal2 HAr HBr HX
        go_wp2_with (refine wpList_index_st _ _ _ rfl rfl _ 3 5 88 _ _ rfl rfl Tryz.underlying89 (by omega) Tryz.underlying88 sizeField rfl ?_)
        generalize wr.alloc (.cells #[.func (.func 87) #[] #[]] 88) = wq at *
        refine wp_region_below (by kernel_rfl) (by kernel_rfl) ?_
        repeat (go_big_quiet_step ((intro hw; first
         | rfl
         | (have y1 := HAr.out _ hw
            have y2 := HBr.out _ hw
            have y3 := HX.out _ hw
            first
            | (go_at_call 87; refine (field3_any _ _).mono ?_; rintro e w4 ⟨rfl, rfl⟩; exact ⟨rfl, hw⟩)
            | (go_simp
               first | rfl | exact ⟨rfl, hw⟩ | (trace_state; fail))))))
        refine wpQuiet_nil ?_
        intro w3 hb3
        go_wp2
        go_roundw
        case rel => exact ⟨4, by omega, by go_num, Hal2.out.trans (hb3.mono Hal2.out.size), Hr.out⟩
        case measure => simp [intOf]
    · by_cases h : limAt b 4 < limAt a 4
      · have hd1 : decide (limAt b 4 < limAt a 4) = true := decide_eq_true h
        have Hr := Lib.hid (firstS_some (show 4 < 5 by omega) ht.out (if_pos h))
        clear h hq
        have Hal2 := Lib.hid (Hb.out.alloc Hb.out.size (.cells #[fieldV 88] 88))
        have HAr := Lib.hid (fun w' (h : Below (wr.alloc (.cells #[fieldV 88] 88)).heap.size (wr.alloc (.cells #[fieldV 88] 88)) w') => HA.out w' (Hal2.out.trans (h.mono Hal2.out.size)) 4 (by omega))
        have HBr := Lib.hid (fun w' (h : Below (wr.alloc (.cells #[fieldV 88] 88)).heap.size (wr.alloc (.cells #[fieldV 88] 88)) w') => HB.out w' (Hal2.out.trans (h.mono Hal2.out.size)) 4 (by omega))
        have HX := Lib.hid (fun w' (h : Below (wr.alloc (.cells #[fieldV 88] 88)).heap.size (wr.alloc (.cells #[fieldV 88] 88)) w') => show w'.cell? ⟨wr.heap.size, 0, none⟩ = some (.func (.func 88) #[] #[]) from (h.cell (p := ⟨wr.heap.size, 0, none⟩) (by simp)).trans (cells_cell (i := 0) (row_new rfl) rfl))
        generalize limAt a 4 = xa at *
        generalize limAt b 4 = xb at *
        unfold fieldV at Hal2 HAr HBr HX
        go_wp2_with (refine wpList_index_st _ _ _ rfl rfl _ 4 5 88 _ _ rfl rfl Tryz.underlying89 (by omega) Tryz.underlying88 sizeField rfl ?_)
        generalize wr.alloc (.cells #[.func (.func 88) #[] #[]] 88) = wq at *
        refine wp_region_below (by kernel_rfl) (by kernel_rfl) ?_
        repeat (go_big_quiet_step ((intro hw; first
         | rfl
         | (have y1 := HAr.out _ hw
            have y2 := HBr.out _ hw
            have y3 := HX.out _ hw
            first
            | (go_at_call 88; refine (field4_any _ _).mono ?_; rintro e w4 ⟨rfl, rfl⟩; exact ⟨rfl, hw⟩)
            | (go_simp
               first | rfl | exact ⟨rfl, hw⟩ | (trace_state; fail))))))
        refine wpQuiet_nil ?_
        intro w3 hb3
        go_wp2
        go_ret
        exact ⟨by rw [Hx.out, Hr.out]; rfl, Hal.out.trans ((Hal2.out.trans (hb3.mono Hal2.out.size)).mono Hal.out.size)⟩
      · have hd1 : decide (limAt b 4 < limAt a 4) = false := decide_eq_false h
        have Hr := Lib.hid (firstS_step ht.out (if_neg h))
        clear h hq
        have Hal2 := Lib.hid (Hb.out.alloc Hb.out.size (.cells #[fieldV 88] 88))
        have HAr := Lib.hid (fun w' (h : Below (wr.alloc (.cells #[fieldV 88] 88)).heap.size (wr.alloc (.cells #[fieldV 88] 88)) w') => HA.out w' (Hal2.out.trans (h.mono Hal2.out.size)) 4 (by omega))
        have HBr := Lib.hid (fun w' (h : Below (wr.alloc (.cells #[fieldV 88] 88)).heap.size (wr.alloc (.cells #[fieldV 88] 88)) w') => HB.out w' (Hal2.out.trans (h.mono Hal2.out.size)) 4 (by omega))
        have HX := Lib.hid (fun w' (h : Below (wr.alloc (.cells #[fieldV 88] 88)).heap.size (wr.alloc (.cells #[fieldV 88] 88)) w') => show w'.cell? ⟨wr.heap.size, 0, none⟩ = some (.func (.func 88) #[] #[]) from (h.cell (p := ⟨wr.heap.size, 0, none⟩) (by simp)).trans (cells_cell (i := 0) (row_new rfl) rfl))
        generalize limAt a 4 = xa at *
        generalize limAt b 4 = xb at *
        unfold fieldV at Hal2 HAr HBr HX
        go_wp2_with (refine wpList_index_st _ _ _ rfl rfl _ 4 5 88 _ _ rfl rfl Tryz.underlying89 (by omega) Tryz.underlying88 sizeField rfl ?_)
        generalize wr.alloc (.cells #[.func (.func 88) #[] #[]] 88) = wq at *
        refine wp_region_below (by kernel_rfl) (by kernel_rfl) ?_
        repeat (go_big_quiet_step ((intro hw; first
         | rfl
         | (have y1 := HAr.out _ hw
            have y2 := HBr.out _ hw
            have y3 := HX.out _ hw
            first
            | (go_at_call 88; refine (field4_any _ _).mono ?_; rintro e w4 ⟨rfl, rfl⟩; exact ⟨rfl, hw⟩)
            | (go_simp
               first | rfl | exact ⟨rfl, hw⟩ | (trace_state; fail))))))
        refine wpQuiet_nil ?_
        intro w3 hb3
        go_wp2
        go_roundw
        case rel => exact ⟨5, by omega, by go_num, Hal2.out.trans (hb3.mono Hal2.out.size), Hr.out⟩
        case measure => simp [intOf]
  · obtain rfl : q = 5 := by omega
    have Hr := Lib.hid (firstS_none ht.out)
    go_wp2
    go_ret
    exact ⟨by rw [Hx.out, Hr.out]; rfl, Hal.out.trans (Hb.out.mono Hal.out.size)⟩
theorem within_any (a b : Lim) (w : World) :
 Calls Tryz.prog 26 #[limV a, limV b] w fun x w' => x = .returned (.bool (decide (limX a b = none))) ∧ Below w.heap.size w w' := by
 have Hal := Lib.hid (show Below w.heap.size w ((w.alloc (.cells #[.int .i64 a.1, .int .i64 a.2.1, .int .i64 a.2.2.1, .int .i64 a.2.2.2.1, .int .i64 a.2.2.2.2] 47)).alloc (.cells #[.int .i64 b.1, .int .i64 b.2.1, .int .i64 b.2.2.1, .int .i64 b.2.2.2.1, .int .i64 b.2.2.2.2] 47)) from ((Below.refl _ _).alloc (Nat.le_refl _) _).alloc (by simp) _)
 have hC := Lib.hid (fun w => exceeds_any a b w)
 unfold limV at hC ⊢
 cases h : limX a b with
 | none =>
  rw [h] at hC
  simp only [intO] at hC
  clear h
  go_enter Tryz.func26, Tryz.ntmps26
  go_wp2_with fail
  refine (hC.out _).mono ?_
  rintro e w1 ⟨rfl, hb1⟩
  have Hb1 := Lib.hid (Hal.out.trans (hb1.mono Hal.out.size)); clear hb1
  go_wp2
  go_ret
  exact ⟨by simp, Hb1.out⟩
 | some i =>
  rw [h] at hC
  simp only [intO] at hC
  have hd : decide ((i : Int) < 0) = false := by rw [decide_eq_false_iff_not]; omega
  clear h
  go_enter Tryz.func26, Tryz.ntmps26
  go_wp2_with fail
  refine (hC.out _).mono ?_
  rintro e w1 ⟨rfl, hb1⟩
  have Hb1 := Lib.hid (Hal.out.trans (hb1.mono Hal.out.size)); clear hb1
  go_wp2
  go_ret
  exact ⟨by simp, Hb1.out⟩
end
end Go.Proofs.YtkkdlgcfcbaibaaGreatDoor
