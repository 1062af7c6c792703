/- Walks and laws, joined: La17. -/
import Derived.Test.YtkkdlgcfcbaibaaGreatDoorLa16
import Derived.Test.YtkkdlgcfcbaibaaGreatDoorLa12
import Derived.Test.YtkkdlgcfcbaibaaGreatDoorLa04
set_option linter.unusedVariables false
namespace Go.Proofs.YtkkdlgcfcbaibaaGreatDoor
section
open Go.RowKit
theorem Frags.fix {w : World} {b o n cap : Nat} {k : Kno} (h : Frags w (some ⟨b, o, none⟩) n cap k) {i : Nat} (hi : i < n) : ∃ x m c y m' c', ∀ w', Below w.heap.size w w' →
 w'.cell? ⟨b, o + i * 2, none⟩ = some (.slice x m c) ∧ Ivs w' x m c (nthF k i).1 ∧ w'.cell? ⟨b, o + i * 2 + 1, none⟩ = some (.slice y m' c') ∧ Ents w' y m' c' (nthF k i).2 := by
 obtain ⟨b', o', hs, hc⟩ := h.cells (by omega)
 cases hs
 obtain ⟨⟨x, m, c, h1, h2⟩, ⟨y, m', c', h3, h4⟩⟩ := hc i hi
 exact ⟨x, m, c, y, m', c', fun w' hb => ⟨(hb.cell (p := ⟨b, o + i * 2, none⟩) (cell_lt h1)).trans h1, h2.below hb, (hb.cell (p := ⟨b, o + i * 2 + 1, none⟩) (cell_lt h3)).trans h3, h4.below hb⟩⟩
theorem Frags.some {w : World} {a : Option Addr} {n cap : Nat} {k : Kno} (h : Frags w a n cap k) (hn : 0 < n) : ∃ b o, a = some ⟨b, o, none⟩ := by
 obtain ⟨b, o, ha, -⟩ := h.cells hn
 exact ⟨b, o, ha⟩
set_option maxRecDepth 20000 in
set_option maxHeartbeats 2000000 in
theorem refCheck11_any (a : Option Addr) (n cap : Nat) (k : Kno) (w : World) (hE : Frags w a n cap k) :
 Calls Tryz.prog 31 #[.slice a n cap] w fun x w' => x = .returned (.tuple #[.int .i64 (errCode (errOf (ckF k))), .int .i64 (errAt (errOf (ckF k)))]) ∧ Below w.heap.size w w' := by
 have HE := Lib.hid hE
 have Hl := Lib.hid hE.len
 have hm : n ≤ 9223372036854775807 := Nat.le_trans hE.room hE.most
 have Hck := Lib.hid (show ckF k = firstS (ckFAt k) k.length from rfl)
 clear hE
 go_enter Tryz.func31, Tryz.ntmps31
 go_wp2
 go_loopw [4, 5, 6] (fun i _ _ wr => ∃ d : Nat, d ≤ n ∧ i = .int .i64 d ∧ Below w.heap.size w wr ∧ Hid (∀ j, j < d → ckFAt k j = none)) (fun i _ _ _ => n - (intOf i).toNat)
 case atStart => exact ⟨0, by omega, rfl, Below.refl _ _, fun j h => by omega⟩
 case round =>
  obtain ⟨d, hd, rfl, hb, ht⟩ := hrel
  have Hb := Lib.hid hb; clear hb
  by_cases hdn : d < n
  · have hdk : d < k.length := by rw [Hl.out]; exact hdn
    have HEr := Lib.hid (HE.out.below Hb.out)
    obtain ⟨bb, oo, rfl⟩ := HEr.out.some (by omega)
    obtain ⟨x, m, c, y, m', c', hq⟩ := HEr.out.fix hdn
    have Hq := Lib.hid hq
    have Hat := Lib.hid (show ckFAt k d = match ck (nthF k d).1 with | some x => some (x.1, d) | none => match ckV (nthF k d).2 with | some x => some (x.1, d) | none => none from rfl)
    have hC := Lib.hid (fun w' h => refCheck_any x m c (nthF k d).1 w' (hq w' h).2.1)
    have hV := Lib.hid (fun w' h => refCheck9_any y m' c' (nthF k d).2 w' (hq w' h).2.2.2)
    have h0 : (0 : Int) ≤ d := by omega
    have h04 : (d : Int) < (n : Int) := by omega
    obtain ⟨q1, -, q2, -⟩ := hq _ (Below.refl _ _)
    clear hq
    generalize nthF k d = f at *
    cases h : ck f.1 with
    | some z =>
     have hc0 := ck_code h
     obtain ⟨cd, ci⟩ := z
     rw [h] at Hat hC
     simp only [errOf, errCode, errAt] at Hat hC
     have hne : ((cd : Int) != 0) = true := by rw [bne_iff_ne]; simp at hc0; omega
     have heq : ((cd : Int) == 0) = false := by rw [beq_eq_false_iff_ne]; simp at hc0; omega
     have Hr := Lib.hid (firstS_some hdk ht.out Hat.out)
     clear h hc0 hV
     go_wp2_with fail
     refine (hC.out _ (Below.refl _ _)).mono ?_
     rintro z w1 ⟨rfl, hb1⟩
     have Hb1 := Lib.hid hb1; clear hb1
     go_wp2
     go_ret2
     exact ⟨by rw [Hck.out, Hr.out]; rfl, Hb.out.trans (Hb1.out.mono Hb.out.size)⟩
    | none =>
     rw [h] at Hat hC
     simp only [errOf, errCode, errAt] at Hat hC
     clear h
     go_wp2_with fail
     refine (hC.out _ (Below.refl _ _)).mono ?_
     rintro z w1 ⟨rfl, hb1⟩
     have Hb1 := Lib.hid hb1; clear hb1 q1 q2
     obtain ⟨q1, -, q2, -⟩ := Hq.out _ Hb1.out
     have Hw1 := Lib.hid (Hb.out.trans (Hb1.out.mono Hb.out.size))
     cases h : ckV f.2 with
     | some z =>
      have hc0 := ckV_code h
      obtain ⟨cd, ci⟩ := z
      rw [h] at Hat hV
      simp only [errOf, errCode, errAt] at Hat hV
      have hne : ((cd : Int) != 0) = true := by rw [bne_iff_ne]; simp at hc0; omega
      have Hr := Lib.hid (firstS_some hdk ht.out Hat.out)
      clear h hc0
      go_wp2_with fail
      refine (hV.out _ Hb1.out).mono ?_
      rintro z w2 ⟨rfl, hb2⟩
      have Hb2 := Lib.hid hb2; clear hb2
      go_wp2
      go_ret2
      exact ⟨by rw [Hck.out, Hr.out]; rfl, Hw1.out.trans (Hb2.out.mono Hw1.out.size)⟩
     | none =>
      rw [h] at Hat hV
      simp only [errOf, errCode, errAt] at Hat hV
      have Hr := Lib.hid (firstS_step ht.out Hat.out)
      clear h
      go_wp2_with fail
      refine (hV.out _ Hb1.out).mono ?_
      rintro z w2 ⟨rfl, hb2⟩
      have Hb2 := Lib.hid hb2; clear hb2
      go_wp2
      go_roundw
      case rel => exact ⟨d + 1, by omega, by go_num, Hw1.out.trans (Hb2.out.mono Hw1.out.size), Hr.out⟩
      case measure => simp [intOf]; omega
  · obtain rfl : d = n := by omega
    have Hr := Lib.hid (firstS_none (n := k.length) (fun j hj => ht.out j (by rw [← Hl.out]; exact hj)))
    go_wp2
    go_ret2
    exact ⟨by rw [Hck.out, Hr.out]; rfl, by first | exact Hb.out | exact below_drewN' Hb.out _⟩
theorem all_step {p : Nat → Prop} {d : Nat} (h : ∀ j, j < d → p j) (hd : p d) : ∀ j, j < d + 1 → p j := fun j hj => by
 by_cases e : j = d
 · rw [e]; exact hd
 · exact h j (by omega)
def fewF (f : Frg) : Bool := decide (f.1.length ≤ 20) && fewV f.2
def fewK (k : Kno) : Bool := k.all fewF && decide (k.length ≤ 12)
theorem all_not {k : Kno} {p : Frg → Bool} {i : Nat} (hi : i < k.length) (h : p (nthF k i) = false) : k.all p = false := by
 rw [Bool.eq_false_iff]
 intro h2
 rw [List.all_eq_true.1 h2 _ (nthF_mem hi)] at h
 cases h
theorem all_of {k : Kno} {p : Frg → Bool} (h : ∀ i, i < k.length → p (nthF k i) = true) : k.all p = true := by
 rw [List.all_eq_true]
 intro f hf
 obtain ⟨i, hi, rfl⟩ := List.getElem_of_mem hf
 have := h i hi
 rwa [nthF_get hi] at this
set_option maxRecDepth 20000 in
set_option maxHeartbeats 2000000 in
theorem refFew11_any (a : Option Addr) (n cap : Nat) (k : Kno) (w : World) (hE : Frags w a n cap k) :
 Calls Tryz.prog 9 #[.slice a n cap] w fun x w' => x = .returned (.bool (fewK k)) ∧ Below w.heap.size w w' := by
 have HE := Lib.hid hE
 have Hl := Lib.hid hE.len
 have hm : n ≤ 9223372036854775807 := Nat.le_trans hE.room hE.most
 have Hck := Lib.hid (show fewK k = (k.all fewF && decide (k.length ≤ 12)) from rfl)
 clear hE
 go_enter Tryz.func9, Tryz.ntmps9
 go_wp2
 go_loopw [3] (fun i wr => ∃ d : Nat, d ≤ n ∧ i = .int .i64 d ∧ Below w.heap.size w wr ∧ Hid (∀ j, j < d → fewF (nthF k j) = true)) (fun i _ => n - (intOf i).toNat)
 case atStart => exact ⟨0, by omega, rfl, Below.refl _ _, fun j h => by omega⟩
 case round =>
  obtain ⟨d, hd, rfl, hb, ht⟩ := hrel
  have Hb := Lib.hid hb; clear hb
  by_cases hdn : d < n
  · have hdk : d < k.length := by rw [Hl.out]; exact hdn
    have HEr := Lib.hid (HE.out.below Hb.out)
    obtain ⟨bb, oo, rfl⟩ := HEr.out.some (by omega)
    obtain ⟨x, m, c, y, m', c', hq⟩ := HEr.out.fix hdn
    have Hat := Lib.hid (show fewF (nthF k d) = (decide ((nthF k d).1.length ≤ 20) && fewV (nthF k d).2) from rfl)
    have Hyes := Lib.hid (all_not (p := fewF) hdk)
    have Hno := Lib.hid (fun h => all_step (p := fun j => fewF (nthF k j) = true) ht.out h)
    have hV := Lib.hid (refFew9_any y m' c' (nthF k d).2 wr (hq _ (Below.refl _ _)).2.2.2)
    have h0 : (0 : Int) ≤ d := by omega
    have h04 : (d : Int) < (n : Int) := by omega
    obtain ⟨q1, hI, q2, -⟩ := hq _ (Below.refl _ _)
    rw [hI.len] at Hat
    clear hq hI
    generalize nthF k d = f at *
    generalize fewF f = bf at *
    generalize fewV f.2 = b2 at *
    by_cases h20 : m ≤ 20
    · have hd1 : decide (20 < (m : Int)) = false := by rw [decide_eq_false_iff_not]; omega
      have hd2 : decide (m ≤ 20) = true := by rw [decide_eq_true_iff]; exact h20
      rw [hd2] at Hat
      clear h20 hd2
      go_wp2_with fail
      refine hV.out.mono ?_
      rintro e w1 ⟨rfl, hb1⟩
      have Hb1 := Lib.hid (Hb.out.trans (hb1.mono Hb.out.size)); clear hb1
      cases b2 with
      | true =>
       have Hs := Lib.hid (Hno.out (by rw [Hat.out]; rfl))
       clear Hyes Hno
       go_wp2
       go_roundw
       case rel => exact ⟨d + 1, by omega, by go_num, Hb1.out, Hs.out⟩
       case measure => simp [intOf]; omega
      | false =>
       have Hs := Lib.hid (Hyes.out (by rw [Hat.out]; rfl))
       clear Hyes Hno
       go_wp2
       go_ret
       exact ⟨by rw [Hck.out, Hs.out]; rfl, Hb1.out⟩
    · have hd1 : decide (20 < (m : Int)) = true := by rw [decide_eq_true_iff]; omega
      have hd2 : decide (m ≤ 20) = false := by rw [decide_eq_false_iff_not]; exact h20
      rw [hd2] at Hat
      have Hs := Lib.hid (Hyes.out (by rw [Hat.out]; rfl))
      clear h20 hd2 hV Hyes Hno
      go_wp2
      go_ret
      exact ⟨by rw [Hck.out, Hs.out]; rfl, Hb.out⟩
  · obtain rfl : d = n := by omega
    have Hr := Lib.hid (all_of (k := k) (p := fewF) (fun j hj => ht.out j (by rw [← Hl.out]; exact hj)))
    have Hd1 := Lib.hid (show decide ((d : Int) ≤ 12) = decide (k.length ≤ 12) from by rw [Hl.out]; exact decide_eq_decide.2 (by omega))
    go_wp2
    go_ret
    exact ⟨by rw [Hck.out, Hr.out, Bool.true_and, ← Hd1.out]; rfl, Hb.out⟩
def i64C (l : List Nat) : List Value := l.map fun x => Value.int .i64 ((x : Nat) : Int)
theorem i64C_append (a b : List Nat) : i64C (a ++ b) = i64C a ++ i64C b := by simp [i64C]
theorem i64C_length (a : List Nat) : (i64C a).length = a.length := by simp [i64C]
theorem i64C_get (l : List Nat) (i : Nat) (h : i < l.length) : (i64C l)[i]? = some (.int .i64 ((nth l i : Nat) : Int)) := by simp [i64C, nth, h]
theorem i64C_one (l : List Nat) : ∀ u ∈ i64C l, u.oneCell' = true := by
 intro u hu
 simp only [i64C, List.mem_map] at hu
 obtain ⟨x, _, rfl⟩ := hu
 rfl
structure I64s (w : World) (a : Option Addr) (n cap : Nat) (l : List Nat) : Prop where
 len : l.length = n
 room : n ≤ cap
 most : cap ≤ 9223372036854775807
 nilc : a = none → cap = 0
 cells : 0 < n → ∃ b o, a = some ⟨b, o, none⟩ ∧ ∀ i, i < n → w.cell? ⟨b, o + i, none⟩ = some (.int .i64 ((nth l i : Nat) : Int))
theorem I64s.below {w w' : World} {a : Option Addr} {n cap : Nat} {l : List Nat} (h : I64s w a n cap l) (hb : Below w.heap.size w w') : I64s w' a n cap l := by
 refine ⟨h.len, h.room, h.most, h.nilc, fun hn => ?_⟩
 obtain ⟨b, o, ha, hc⟩ := h.cells hn
 refine ⟨b, o, ha, fun i hi => ?_⟩
 have := hc i hi
 exact (hb.cell (p := ⟨b, o + i, none⟩) (cell_lt this)).trans this
theorem i64s_own {w : World} {base n : Nat} {T : TypeId} {v : Value} {l : List Nat} (h : w.ownsRow base T 1 v n (i64C l)) : ∃ a cap, v = .slice a n cap ∧ I64s w a n cap l := by
 have hlen : l.length = n := by have := h.1; rw [i64C_length] at this; omega
 rcases h.2 with ⟨rfl, rfl⟩ | ⟨g, cap, cur, rfl, hg, hh, hnc, hcm, _⟩
 · exact ⟨none, 0, rfl, hlen, by omega, by omega, fun _ => rfl, fun h => by omega⟩
 · refine ⟨_, _, rfl, hlen, hnc, by unfold maxLen at hcm; omega, (by intro h; cases h), fun hn => ⟨g, 0, rfl, fun i hi => ?_⟩⟩
   have hc := h.cells (g := g) rfl i (.int .i64 ((nth l i : Nat) : Int)) (i64C_get l i (by omega))
   rw [add_at] at hc
   exact hc
theorem Tryz.info_int : (Tryz.prog.info? 3).map (fun i => (i.zero, i.size, i.bytes)) = some (some (.int .i64 0), 1, 8) := by kernel_rfl
theorem run_append_i64 {w : World} (base : Nat) (v : Value) (n : Nat) (xs : List Nat) (hown : w.ownsRow base 3 1 v n (i64C xs)) (A : Option Addr) (m c : Nat) (l : List Nat) (hr : Rd w 1 A m (i64C l)) (hb : n + m ≤ 1000000) (hbase : base ≤ w.heap.size) :
 ∃ v' w', (Builtin.append_ #[29, 29] 29 #[v, .slice A m c]).run Tryz.prog w = .ok v' w' ∧ w'.ownsRow base 3 1 v' (n + m) (i64C (xs ++ l)) ∧ w.grownBy w' v.ownBlock := by
 rw [i64C_append]
 exact run_append_rd base _ _ _ _ 1 8 Tryz.underlying29 Tryz.info_int rfl (by omega) v n _ hown A m c _ hr (i64C_one l) (by unfold maxLen; omega) (by omega) hbase
theorem wpList_append_i64 {w : World} {ops : Array Oper} {rest : List Oper} {o : Oper} {a : Act} {Q : Exit → Act → World → Prop} (hgd : o.guard = none) (s x : Operand)
 (ho : o.op = .call { callee := .builtin .append, args := #[s, x], argTypes := #[29, 29] }) (hty : o.type = 29)
 (base : Nat) (v : Value) (n : Nat) (xs : List Nat) (hs : a.eval s = v) (hown : w.ownsRow base 3 1 v n (i64C xs)) (A : Option Addr) (m c : Nat) (l : List Nat) (hx : a.eval x = .slice A m c) (hr : Rd w 1 A m (i64C l)) (hb : n + m ≤ 1000000) (hbase : base ≤ w.heap.size)
 (h : ∀ v' w', w'.ownsRow base 3 1 v' (n + m) (i64C (xs ++ l)) → w.grownBy w' v.ownBlock → wpList Tryz.prog ops Q rest (a.put o.dst v') w') : wpList Tryz.prog ops Q (o :: rest) a w := by
 obtain ⟨v', w', hrun, h1, h2⟩ := run_append_i64 base v n xs hown A m c l hr hb hbase
 exact wpList_append_hr _ _ _ ho (by simp [Region.wanted, hgd]) _ _ hs hx v' w' (by rw [hty]; exact hrun) (h v' w' h1 h2)
def atTo (k : Kno) (x d : Nat) : Vec := atK (k.take d) x
theorem atTo_zero (k : Kno) (x : Nat) : atTo k x 0 = [] := rfl
theorem atTo_succ {k : Kno} {x d : Nat} (h : d < k.length) : atTo k x (d + 1) = if mem (nthF k d).1 x = true then doV gOr (atTo k x d) (nthF k d).2 else atTo k x d := by
 unfold atTo atK
 rw [List.take_succ_eq_append_getElem h, List.foldl_append, nthF_get h]
 rfl
theorem atTo_all (k : Kno) (x : Nat) : atTo k x k.length = atK k x := by unfold atTo; rw [List.take_length]
structure KnoFits (k : Kno) : Prop where
 len : k.length ≤ 500
 items : ∀ f ∈ k, f.1.length ≤ 500
 vec : ∀ f ∈ k, VecFits f.2
 at_ : ∀ x d, VecFits (atTo k x d)
theorem ltV_atTo {k : Kno} (h : LtK k) (x d : Nat) : LtV (atTo k x d) := (atK_can (fun f hf => h f (List.mem_of_mem_take hf)) x).2.1
set_option maxRecDepth 20000 in
set_option maxHeartbeats 2000000 in
theorem refAt11_any (a : Option Addr) (n cap t : Nat) (k : Kno) (w : World) (hE : Frags w a n cap k) (hL : LtK k) (hF : KnoFits k) :
 Calls Tryz.prog 145 #[.slice a n cap, .int .u64 t] w fun x w' => (∃ y, x = .returned y ∧ OwnV w' w.heap.size y (atK k t)) ∧ Below w.heap.size w w' := by
 have HE := Lib.hid hE; have HL := Lib.hid hL; have HF := Lib.hid hF
 have Hl := Lib.hid hE.len
 have hm : n ≤ 9223372036854775807 := Nat.le_trans hE.room hE.most
 clear hE hL hF
 go_enter Tryz.func145, Tryz.ntmps145
 go_wp2
 go_loopw [5, 6] (fun y i wr => ∃ d : Nat, d ≤ n ∧ i = .int .i64 d ∧ Below w.heap.size w wr ∧ Hid (OwnV wr w.heap.size y (atTo k t d))) (fun _ i _ => n - (intOf i).toNat)
 case atStart => exact ⟨0, by omega, rfl, Below.refl _ _, ownV_nil _ _⟩
 case round =>
  obtain ⟨d, hd, rfl, hb, ho⟩ := hrel
  have Hb := Lib.hid hb; clear hb
  by_cases hdn : d < n
  · have hdk : d < k.length := by rw [Hl.out]; exact hdn
    have HEr := Lib.hid (HE.out.below Hb.out)
    obtain ⟨bb, oo, rfl⟩ := HEr.out.some (by omega)
    obtain ⟨x, m, c, y, m', c', hq⟩ := HEr.out.fix hdn
    have Hq := Lib.hid hq
    have Hst := Lib.hid (atTo_succ (x := t) hdk)
    have Hvf := Lib.hid (HF.out.vec _ (nthF_mem hdk))
    have Haf := Lib.hid (HF.out.at_ t d)
    obtain ⟨av, cv, rfl, hV⟩ := ho.out.ents (ltV_atTo HL.out t d)
    have HV := Lib.hid hV
    have hC := Lib.hid (fun w' h => refHas_any x m c t (nthF k d).1 w' (hq w' h).2.1)
    have hD := Lib.hid (fun w' (h : Below wr.heap.size wr w') => refDo10_any av y _ cv m' c' 0 (atTo k t d) (nthF k d).2 w' (hV.below h) (hq w' h).2.2.2 (by omega) Haf.out Hvf.out)
    have h0 : (0 : Int) ≤ d := by omega
    have h04 : (d : Int) < (n : Int) := by omega
    obtain ⟨q1, -, q2, -⟩ := hq _ (Below.refl _ _)
    clear hq hV
    generalize atTo k t d = V0 at *
    generalize nthF k d = f at *
    generalize mem f.1 t = b1 at *
    cases b1 with
    | false =>
     rw [if_neg (by simp)] at Hst
     clear hD
     go_wp2_with fail
     refine (hC.out _ (Below.refl _ _)).mono ?_
     rintro e w1 ⟨rfl, hb1⟩
     have Hb1 := Lib.hid hb1; clear hb1
     go_wp2
     go_roundw
     case rel => exact ⟨d + 1, by omega, by go_num, Hb.out.trans (Hb1.out.mono Hb.out.size), by rw [Hst.out]; exact ho.out.below Hb1.out⟩
     case measure => simp [intOf]; omega
    | true =>
     rw [if_pos rfl] at Hst
     go_wp2_with fail
     refine (hC.out _ (Below.refl _ _)).mono ?_
     rintro e w1 ⟨rfl, hb1⟩
     have Hb1 := Lib.hid hb1; clear hb1 q1 q2
     obtain ⟨q1, -, q2, -⟩ := Hq.out _ Hb1.out
     have Hw1 := Lib.hid (Hb.out.trans (Hb1.out.mono Hb.out.size))
     have hD1 := Lib.hid (hD.out _ Hb1.out)
     rw [show ((0 : Nat) : Int) = 0 from rfl] at hD1
     go_wp2_with fail
     refine hD1.out.mono ?_
     rintro e w2 ⟨⟨y2, rfl, ho2⟩, hb2⟩
     have Hw2 := Lib.hid (Hw1.out.trans (hb2.mono Hw1.out.size)); have Ho2 := Lib.hid ho2
     clear hb2 ho2
     go_wp2
     go_roundw
     case rel => exact ⟨d + 1, by omega, by go_num, Hw2.out, by rw [Hst.out]; exact Ho2.out.lower Hw1.out.size⟩
     case measure => simp [intOf]; omega
  · obtain rfl : d = n := by omega
    have Ho := Lib.hid ho.out
    rw [← Hl.out, atTo_all] at Ho
    go_wp2
    go_ret
    exact ⟨⟨_, rfl, Ho.out⟩, Hb.out⟩
def memTo (k : Kno) (x d : Nat) : List Nat := (List.range d).filter fun i => mem (nthF k i).1 x
theorem memTo_succ (k : Kno) (x d : Nat) : memTo k x (d + 1) = memTo k x d ++ (if mem (nthF k d).1 x = true then [d] else []) := by
 unfold memTo
 rw [List.range_succ, List.filter_append]
 congr 1
 by_cases h : mem (nthF k d).1 x = true
 · simp [h]
 · simp [h]
theorem memTo_len (k : Kno) (x d : Nat) : (memTo k x d).length ≤ d := by
 have := List.length_filter_le (fun i => mem (nthF k i).1 x) (List.range d)
 simpa [memTo] using this
set_option maxRecDepth 20000 in
set_option maxHeartbeats 2000000 in
theorem refMembers11_any (a : Option Addr) (n cap t : Nat) (k : Kno) (w : World) (hE : Frags w a n cap k) (hn : n ≤ 500) :
 Calls Tryz.prog 178 #[.slice a n cap, .int .u64 t] w fun x w' => (∃ y, x = .returned y ∧ w'.ownsRow w.heap.size 3 1 y (membersK k t).length (i64C (membersK k t))) ∧ Below w.heap.size w w' := by
 have HE := Lib.hid hE
 have Hl := Lib.hid hE.len
 have Hmk := Lib.hid (show membersK k t = memTo k t k.length from rfl)
 clear hE
 go_enter Tryz.func178, Tryz.ntmps178
 go_wp2
 go_loopw [5, 6] (fun y i wr => ∃ d : Nat, d ≤ n ∧ i = .int .i64 d ∧ Below w.heap.size w wr ∧ Hid (wr.ownsRow w.heap.size 3 1 y (memTo k t d).length (i64C (memTo k t d)))) (fun _ i _ => n - (intOf i).toNat)
 case atStart => exact ⟨0, by omega, rfl, Below.refl _ _, World.ownsRow_nil _ _ _ _⟩
 case round =>
  obtain ⟨d, hd, rfl, hb, ho⟩ := hrel
  have Hb := Lib.hid hb; clear hb
  by_cases hdn : d < n
  · have hdk : d < k.length := by rw [Hl.out]; exact hdn
    have HEr := Lib.hid (HE.out.below Hb.out)
    obtain ⟨bb, oo, rfl⟩ := HEr.out.some (by omega)
    obtain ⟨x, m, c, y, m', c', hq⟩ := HEr.out.fix hdn
    have Hst := Lib.hid (memTo_succ k t d)
    have Hlen := Lib.hid (memTo_len k t d)
    have hC := Lib.hid (refHas_any x m c t (nthF k d).1 wr (hq wr (Below.refl _ _)).2.1)
    have h0 : (0 : Int) ≤ d := by omega
    have h04 : (d : Int) < (n : Int) := by omega
    obtain ⟨q1, -, q2, -⟩ := hq _ (Below.refl _ _)
    clear hq
    generalize memTo k t d = M0 at *
    generalize nthF k d = f at *
    generalize mem f.1 t = b1 at *
    cases b1 with
    | false =>
     rw [if_neg (by simp), List.append_nil] at Hst
     go_wp2_with fail
     refine hC.out.mono ?_
     rintro e w1 ⟨rfl, hb1⟩
     have Hb1 := Lib.hid hb1; clear hb1
     go_wp2
     go_roundw
     case rel => exact ⟨d + 1, by omega, by go_num, Hb.out.trans (Hb1.out.mono Hb.out.size), by rw [Hst.out]; exact own_below ho.out Hb1.out⟩
     case measure => simp [intOf]; omega
    | true =>
     rw [if_pos rfl] at Hst
     go_wp2_with fail
     refine hC.out.mono ?_
     rintro e w1 ⟨rfl, hb1⟩
     have Hb1 := Lib.hid hb1
     have Hw1 := Lib.hid (Hb.out.trans (hb1.mono Hb.out.size))
     have Ho1 := Lib.hid (own_below ho.out hb1)
     clear hb1
     go_wp2_with (at_builtin; refine wpList_append_i64 rfl (.tmp 20) (.tmp 22) rfl rfl w.heap.size _ _ M0 rfl (Ho1.out.alloc _) _ 1 _ [d] rfl (rd_block (heap_at_new _ _ _ (by simp)) rfl rfl) (by have := Hlen.out; omega) (by have := Hw1.out.size; simp; omega) ?_; intro v' w8 ho8 hg8)
     have Hb8 := Lib.hid (Below.grown (B := w.heap.size) (Hw1.out.alloc Hw1.out.size _) hg8 (by have := Hw1.out.size; simp; omega) (fun k hk => (Ho1.out.lt k hk).1))
     go_roundw
     case rel => exact ⟨d + 1, by omega, by go_num, Hb8.out, by rw [Hst.out, List.length_append]; exact ho8⟩
     case measure => simp [intOf]; omega
  · obtain rfl : d = n := by omega
    have Ho := Lib.hid ho.out
    rw [← Hl.out, ← Hmk.out] at Ho
    go_wp2
    go_ret
    exact ⟨⟨_, rfl, Ho.out⟩, Hb.out⟩
set_option maxRecDepth 20000 in
set_option maxHeartbeats 2000000 in
theorem refSameMembers_any (a : Option Addr) (n cap x y : Nat) (k : Kno) (w : World) (hE : Frags w a n cap k) :
 Calls Tryz.prog 204 #[.slice a n cap, .int .u64 x, .int .u64 y] w fun e w' => e = .returned (.bool (decide (membersK k x = membersK k y))) ∧ Below w.heap.size w w' := by
 have HE := Lib.hid hE
 have Hl := Lib.hid hE.len
 have hm : n ≤ 9223372036854775807 := Nat.le_trans hE.room hE.most
 clear hE
 go_enter Tryz.func204, Tryz.ntmps204
 go_wp2
 go_loopw [7] (fun i wr => ∃ d : Nat, d ≤ n ∧ i = .int .i64 d ∧ Below w.heap.size w wr ∧ Hid (∀ j, j < d → mem (nthF k j).1 x = mem (nthF k j).1 y)) (fun i _ => n - (intOf i).toNat)
 case atStart => exact ⟨0, by omega, rfl, Below.refl _ _, fun j h => by omega⟩
 case round =>
  obtain ⟨d, hd, rfl, hb, ht⟩ := hrel
  have Hb := Lib.hid hb; clear hb
  by_cases hdn : d < n
  · have hdk : d < k.length := by rw [Hl.out]; exact hdn
    have HEr := Lib.hid (HE.out.below Hb.out)
    obtain ⟨bb, oo, rfl⟩ := HEr.out.some (by omega)
    obtain ⟨x1, m, c, y1, m', c', hq⟩ := HEr.out.fix hdn
    have Hq := Lib.hid (fun w' (h : Below wr.heap.size wr w') => (hq w' h).1)
    have hC := Lib.hid (fun w' h => refHas_any x1 m c x (nthF k d).1 w' (hq w' h).2.1)
    have hD := Lib.hid (fun w' h => refHas_any x1 m c y (nthF k d).1 w' (hq w' h).2.1)
    have Hyes := Lib.hid (fun h => all_step (p := fun j => mem (nthF k j).1 x = mem (nthF k j).1 y) ht.out h)
    have Hno := Lib.hid (show mem (nthF k d).1 x ≠ mem (nthF k d).1 y → membersK k x ≠ membersK k y from fun h h2 => h (members_eq h2 _ (nthF_mem hdk)))
    have h0 : (0 : Int) ≤ d := by omega
    have h04 : (d : Int) < (n : Int) := by omega
    clear hq
    generalize nthF k d = f at *
    generalize mem f.1 x = b1 at *
    generalize mem f.1 y = b2 at *
    go_wp2_with fail
    go_cut [28] (fun t wc => t = .bool (b1 != b2) ∧ Hid (Below wr.heap.size wr wc))
    case first =>
     refine wp_region_below (by kernel_rfl) (by kernel_rfl) ?_
     repeat (go_big_quiet_step ((intro hw; first
      | rfl
      | (have q0 := Hq.out _ hw
         first
         | (go_at_call 45; first | (with_reducible exact keep_below hw (hC.out _ hw)) | (with_reducible exact keep_below hw (hD.out _ hw)))
         | (go_simp
            first | rfl | exact ⟨rfl, hw⟩ | (trace_state; fail))))))
     refine wpQuiet_nil ?_
     intro w3 hb3
     go_wp2
     go_meet
     exact ⟨by first | rfl | (cases b1 <;> cases b2 <;> rfl), hb3⟩
    case rest =>
     obtain ⟨rfl, hb2⟩ := hcut
     have Hb2 := Lib.hid (Hb.out.trans (hb2.out.mono Hb.out.size))
     clear hb2
     by_cases h : b1 = b2
     · have hbb : (b1 != b2) = false := by rw [h]; simp
       have Hs := Lib.hid (Hyes.out h)
       rw [hbb]
       clear h hbb Hyes Hno
       go_wp2
       go_roundw
       case rel => exact ⟨d + 1, by omega, by go_num, Hb2.out, Hs.out⟩
       case measure => simp [intOf]; omega
     · have hbb : (b1 != b2) = true := by rw [bne_iff_ne]; exact h
       have Hs := Lib.hid (show decide (membersK k x = membersK k y) = false from by rw [decide_eq_false_iff_not]; exact Hno.out h)
       rw [hbb]
       clear h hbb Hyes Hno
       go_wp2
       go_ret
       exact ⟨by rw [Hs.out]; rfl, Hb2.out⟩
  · obtain rfl : d = n := by omega
    have Hr := Lib.hid (show decide (membersK k x = membersK k y) = true from by
     rw [decide_eq_true_iff]
     exact members_congr fun f hf => by
      obtain ⟨i, hi, rfl⟩ := List.getElem_of_mem hf
      have := ht.out i (by rw [← Hl.out]; exact hi)
      rwa [nthF_get hi] at this)
    go_wp2
    go_ret
    exact ⟨by rw [Hr.out]; rfl, Hb.out⟩
theorem Tryz.info_lst : (Tryz.prog.info? 28).map (fun i => (i.zero, i.size, i.bytes)) = some (some (.slice none 0 0), 1, 24) := by kernel_rfl
theorem wpList_append_lst {w : World} {ops : Array Oper} {rest : List Oper} {o : Oper} {a : Act} {Q : Exit → Act → World → Prop} (hgd : o.guard = none) (s x : Operand)
 (ho : o.op = .call { callee := .builtin .append, args := #[s, x], argTypes := #[237, 237] }) (hty : o.type = 237)
 (base : Nat) (v : Value) (n : Nat) (xs : List Value) (hs : a.eval s = v) (hown : w.ownsRow base 28 1 v n xs) (A : Option Addr) (c : Nat) (u : Value) (hu : u.oneCell' = true) (hx : a.eval x = .slice A 1 c) (hr : Rd w 1 A 1 [u]) (hb : n + 1 ≤ 1000000) (hbase : base ≤ w.heap.size)
 (h : ∀ v' w', w'.ownsRow base 28 1 v' (n + 1) (xs ++ [u]) → w.grownBy w' v.ownBlock → wpList Tryz.prog ops Q rest (a.put o.dst v') w') : wpList Tryz.prog ops Q (o :: rest) a w := by
 obtain ⟨v', w', hrun, h1, h2⟩ := run_append_rd base _ _ _ _ 1 24 Tryz.underlying237 Tryz.info_lst rfl (by omega) v n _ hown A 1 c _ hr (by intro z hz; simp at hz; subst hz; exact hu) (by unfold maxLen; omega) (by omega) hbase
 exact wpList_append_hr _ _ _ ho (by simp [Region.wanted, hgd]) _ _ hs hx v' w' (by rw [hty]; exact hrun) (h v' w' h1 h2)
def LstTo (w : World) (k : Kno) (d : Nat) (xs : List Value) : Prop := xs.length = d ∧ ∀ i, i < d → ∃ x m c, xs[i]? = some (.slice x m c) ∧ ∀ w', Below w.heap.size w w' → Ivs w' x m c (nthF k i).1
theorem LstTo.snoc {w : World} {k : Kno} {d : Nat} {xs : List Value} {x : Option Addr} {m c : Nat} (h : LstTo w k d xs) (hI : ∀ w', Below w.heap.size w w' → Ivs w' x m c (nthF k d).1) : LstTo w k (d + 1) (xs ++ [.slice x m c]) := by
 refine ⟨by simp [h.1], fun i hi => ?_⟩
 by_cases e : i = d
 · subst e
   exact ⟨x, m, c, by rw [List.getElem?_append_right (by rw [h.1]; omega), h.1]; simp, hI⟩
 · obtain ⟨x', m', c', h1, h2⟩ := h.2 i (by omega)
   exact ⟨x', m', c', by rw [List.getElem?_append_left (by rw [h.1]; omega)]; exact h1, h2⟩
theorem LstTo.rls {w w' : World} {k : Kno} {n : Nat} {xs : List Value} {v : Value} (h : LstTo w k n xs) (hn : k.length = n) (hb : Below w.heap.size w w') (ho : w'.ownsRow w.heap.size 28 1 v n xs) : ∃ a c, v = .slice a n c ∧ Rls w' a n c (k.map (·.1)) := by
 have ho2 := ho
 rcases ho.2 with ⟨rfl, h0⟩ | ⟨g, cap, cur, rfl, hg, hh, hnc, hcm, _⟩
 · rw [h0] at hn ⊢
   exact ⟨none, 0, rfl, by simpa using hn, by omega, by omega, fun _ => rfl, fun h => by omega⟩
 · refine ⟨_, _, rfl, by simpa using hn, hnc, by unfold maxLen at hcm; omega, (by intro h; cases h), fun h0 => ⟨g, 0, rfl, fun i hi => ?_⟩⟩
   obtain ⟨x, m, c, e, h2⟩ := h.2 i hi
   have hI := h2 w' hb
   have c1 := ho2.cells (g := g) rfl _ _ e
   rw [add_at] at c1
   have hk : (k.map (·.1)).getD i [] = (nthF k i).1 := by
    have hi' : i < k.length := by omega
    rw [nthF_get hi', List.getD_eq_getElem?_getD, List.getElem?_map, List.getElem?_eq_getElem hi']
    rfl
   rw [hk]
   refine ⟨x, c, ?_, by rw [hI.len]; exact hI⟩
   rw [hI.len]; exact c1
def startTo (k : Kno) (d : Nat) : List Nat := ((allK k).take d).filter fun x => decide (x = 0) || decide (membersK k (x - 1) ≠ membersK k x)
theorem startTo_succ {k : Kno} {d : Nat} (h : d < (allK k).length) : startTo k (d + 1) = startTo k d ++ (if (decide (nth (allK k) d = 0) || decide (membersK k (nth (allK k) d - 1) ≠ membersK k (nth (allK k) d))) = true then [nth (allK k) d] else []) := by
 unfold startTo
 have e : (allK k)[d] = nth (allK k) d := by simp [nth, h]
 rw [List.take_succ_eq_append_getElem h, List.filter_append, e, List.filter_cons, List.filter_nil]
theorem startTo_all (k : Kno) : startTo k (allK k).length = startsK k := by unfold startTo startsK; rw [List.take_length]
theorem startTo_len (k : Kno) (d : Nat) : (startTo k d).length ≤ (allK k).length := by
 have := List.length_filter_le (fun x => decide (x = 0) || decide (membersK k (x - 1) ≠ membersK k x)) ((allK k).take d)
 have h2 : ((allK k).take d).length ≤ (allK k).length := by rw [List.length_take]; omega
 unfold startTo
 omega
set_option maxRecDepth 20000 in
set_option maxHeartbeats 4000000 in
theorem refStarts12_any (a : Option Addr) (n cap : Nat) (k : Kno) (w : World) (hE : Frags w a n cap k) (hL : LtK k) (hn : n ≤ 500) (hA : (allL (k.map (·.1))).length ≤ 2000) :
 Calls Tryz.prog 177 #[.slice a n cap] w fun x w' => (∃ y, x = .returned y ∧ w'.ownsRow w.heap.size 24 1 y (startsK k).length (u64C (startsK k))) ∧ Below w.heap.size w w' := by
 have HE := Lib.hid hE; have HL := Lib.hid hL; have HA := Lib.hid hA
 have Hl := Lib.hid hE.len
 clear hE hL hA
 go_enter Tryz.func177, Tryz.ntmps177
 go_wp2
 go_loopw [3, 4] (fun y i wr => ∃ d : Nat, d ≤ n ∧ i = .int .i64 d ∧ Below w.heap.size w wr ∧ Hid (∃ xs, LstTo w k d xs ∧ wr.ownsRow w.heap.size 28 1 y d xs)) (fun _ i _ => n - (intOf i).toNat)
 case atStart => exact ⟨0, by omega, rfl, Below.refl _ _, [], ⟨rfl, fun i h => by omega⟩, World.ownsRow_nil _ _ _ _⟩
 case round =>
  obtain ⟨d, hd, rfl, hb, ho⟩ := hrel
  have Hb := Lib.hid hb; clear hb
  obtain ⟨xs, hxs, ho⟩ := ho.out
  have Hxs := Lib.hid hxs; have Ho := Lib.hid ho
  clear hxs ho
  by_cases hdn : d < n
  · have hdk : d < k.length := by rw [Hl.out]; exact hdn
    obtain ⟨bb, oo, rfl⟩ := HE.out.some (by omega)
    obtain ⟨x, m, c, y1, m', c', hq⟩ := HE.out.fix hdn
    have Hsn := Lib.hid (Hxs.out.snoc (fun w' h => (hq w' h).2.1))
    have q1 := (hq wr Hb.out).1
    have h0 : (0 : Int) ≤ d := by omega
    have h04 : (d : Int) < (n : Int) := by omega
    clear hq
    go_wp2_with (at_builtin; refine wpList_append_lst rfl (.tmp 14) (.tmp 20) rfl rfl w.heap.size _ _ xs rfl (Ho.out.alloc _) _ 1 (.slice x m c) rfl rfl (rd_block (heap_at_new _ _ _ (by simp)) rfl rfl) (by omega) (by have := Hb.out.size; simp; omega) ?_; intro v' w8 ho8 hg8)
    have Hb8 := Lib.hid (Below.grown (B := w.heap.size) (Hb.out.alloc Hb.out.size _) hg8 (by have := Hb.out.size; simp; omega) (fun k hk => (Ho.out.lt k hk).1))
    go_roundw
    case rel => exact ⟨d + 1, by omega, by go_num, Hb8.out, _, Hsn.out, ho8⟩
    case measure => simp [intOf]; omega
  · obtain rfl : d = n := by omega
    obtain ⟨aR, cR, rfl, hR⟩ := Hxs.out.rls Hl.out Hb.out Ho.out
    have hC := Lib.hid (refStarts_any aR d cR (k.map (·.1)) wr hR (by omega) (by have := HA.out; omega))
    clear hR
    go_wp2_with fail
    refine hC.out.mono ?_
    rintro e w2 ⟨⟨v, L, rfl, ho2, hAs, hmem⟩, hb2⟩
    have Hb2 := Lib.hid (Hb.out.trans (hb2.mono Hb.out.size))
    have hLk : L = allK k := sortA_eq hAs hmem
    subst hLk
    obtain ⟨aU, cU, rfl, hU⟩ := u64s_own ho2 (allK_lt HL.out)
    have HU := Lib.hid hU
    have Hall := Lib.hid (startTo_all k)
    have HLn := Lib.hid (show (allK k).length ≤ 2000 from Nat.le_trans (asc_len hAs fun y hy => (hmem y).1 hy) HA.out)
    have HLt := Lib.hid (allK_lt HL.out)
    clear hb2 ho2 hAs hmem hU hC
    obtain ⟨N, hN⟩ : ∃ N, N = (allK k).length := ⟨_, rfl⟩
    have HN := Lib.hid hN
    rw [← hN] at HU HLn Hall ⊢
    clear hN
    have hN2 : N ≤ 2000 := HLn.out
    go_wp2
    go_loopw [6, 7] (fun y i wr => ∃ e : Nat, e ≤ N ∧ i = .int .i64 e ∧ Below w2.heap.size w2 wr ∧ Hid (wr.ownsRow w2.heap.size 24 1 y (startTo k e).length (u64C (startTo k e)))) (fun _ i _ => N - (intOf i).toNat)
    case atStart => exact ⟨0, by omega, rfl, Below.refl _ _, World.ownsRow_nil _ _ _ _⟩
    case round =>
     obtain ⟨e, he, rfl, hbe, hoe⟩ := hrel
     have Hbe := Lib.hid hbe; clear hbe
     have Hbw := Lib.hid (Hb2.out.trans (Hbe.out.mono Hb2.out.size))
     by_cases heN : e < N
     · have HUr := Lib.hid (HU.out.below Hbe.out)
       obtain ⟨bS, oS, rfl, hcS⟩ := HUr.out.cells (by omega)
       have q1 := hcS e heN
       have hcl := HUr.out.room
       have Hq := Lib.hid (fun w' (h : Below wr.heap.size wr w') => (h.cell (p := ⟨bS, oS + e, none⟩) (cell_lt q1)).trans q1)
       have Hst := Lib.hid (startTo_succ (k := k) (d := e) (by rw [← HN.out]; exact heN))
       have Hsl := Lib.hid (startTo_len k e)
       have hxlt := HLt.out _ (nth_mem (show e < (allK k).length by rw [← HN.out]; exact heN))
       rw [← HN.out] at Hsl
       have hD := Lib.hid (fun y w' (h : Below wr.heap.size wr w') => refSameMembers_any a _ cap y (nth (allK k) e) k w' (HE.out.below (Hbw.out.trans (h.mono Hbw.out.size))))
       clear hcS q1
       generalize startTo k e = S0 at *
       generalize nth (allK k) e = x at *
       have h0 : (0 : Int) ≤ e := by omega
       have h04 : (e : Int) < (N : Int) := by omega
       obtain ⟨bt, hbt⟩ : ∃ bt, bt = (decide (x = 0) || decide (membersK k (x - 1) ≠ membersK k x)) := ⟨_, rfl⟩
       rw [← hbt] at Hst
       go_wp2_with fail
       go_cut [48] (fun t wc => t = .bool bt ∧ Hid (Below wr.heap.size wr wc))
       case first =>
        by_cases hx0 : x = 0
        · have hbt1 : bt = true := by rw [hbt, hx0]; rfl
          have hz : ((x : Int) == 0) = true := by rw [hx0]; rfl
          have Hbt := Lib.hid hbt1
          clear hbt hbt1
          refine wp_region_below (by kernel_rfl) (by kernel_rfl) ?_
          repeat (go_big_quiet_step ((intro hw; first
           | rfl
           | (have q0 := Hq.out _ hw
              go_simp
              first | rfl | exact ⟨rfl, hw⟩ | (trace_state; fail)))))
          refine wpQuiet_nil ?_
          intro w3 hb3
          go_wp2
          go_meet
          exact ⟨by rw [Hbt.out]; try rfl, hb3⟩
        · have hbt1 : bt = !decide (membersK k (x - 1) = membersK k x) := by rw [hbt]; simp [hx0]
          have hz : ((x : Int) == 0) = false := by rw [beq_eq_false_iff_ne]; omega
          have hsub : IntKind.u64.wrap ((x : Int) - 1) = ((x - 1 : Nat) : Int) := by rw [IntKind.wrap_u64]; omega
          have hD1 := Lib.hid (hD.out (x - 1))
          generalize decide (membersK k (x - 1) = membersK k x) = bm at *
          generalize x - 1 = x1 at *
          have Hbt := Lib.hid hbt1
          clear hbt hx0 hbt1
          refine wp_region_below (by kernel_rfl) (by kernel_rfl) ?_
          repeat (go_big_quiet_step ((intro hw; first
           | rfl
           | (have q0 := Hq.out _ hw
              first
              | (go_at_call 204; exact keep_below hw (hD1.out _ hw))
              | (go_simp
                 first | rfl | exact ⟨rfl, hw⟩ | (trace_state; fail))))))
          refine wpQuiet_nil ?_
          intro w3 hb3
          go_wp2
          go_meet
          exact ⟨by rw [Hbt.out]; try rfl, hb3⟩
       case rest =>
        obtain ⟨rfl, hb3⟩ := hcut
        have Hb3 := Lib.hid (Hbe.out.trans (hb3.out.mono Hbe.out.size))
        have Ho3 := Lib.hid (own_below hoe.out hb3.out)
        have q2 := Hq.out _ hb3.out
        clear hb3 hbt
        cases bt with
        | false =>
         rw [if_neg (by simp), List.append_nil] at Hst
         go_wp2
         go_roundw
         case rel => exact ⟨e + 1, by omega, by go_num, Hb3.out, by rw [Hst.out]; exact Ho3.out⟩
         case measure => simp [intOf]; omega
        | true =>
         rw [if_pos rfl] at Hst
         go_wp2_with (at_builtin; refine wpList_append_u64 rfl (.tmp 49) (.tmp 54) rfl rfl w2.heap.size _ _ S0 rfl (Ho3.out.alloc _) _ 1 _ [x] rfl (rd_block (heap_at_new _ _ _ (by simp)) rfl rfl) (by have := Hsl.out; omega) (by have := Hb3.out.size; simp; omega) ?_; intro v' w8 ho8 hg8)
         have Hb8 := Lib.hid (Below.grown (B := w2.heap.size) (Hb3.out.alloc Hb3.out.size _) hg8 (by have := Hb3.out.size; simp; omega) (fun k hk => (Ho3.out.lt k hk).1))
         go_roundw
         case rel => exact ⟨e + 1, by omega, by go_num, Hb8.out, by rw [Hst.out, List.length_append]; exact ho8⟩
         case measure => simp [intOf]; omega
     · obtain rfl : e = N := by omega
       have Ho := Lib.hid hoe.out
       rw [Hall.out] at Ho
       go_wp2
       go_ret
       exact ⟨⟨_, rfl, own_mono Ho.out Hb2.out.size⟩, Hbw.out⟩
end
end Go.Proofs.YtkkdlgcfcbaibaaGreatDoor
