/- Walks and laws, joined: La42. -/
import Derived.Test.YtkkdlgcfcbaibaaGreatDoorLa30
import Derived.Test.YtkkdlgcfcbaibaaGreatDoorLa14
set_option linter.unusedVariables false
namespace Go.Proofs.YtkkdlgcfcbaibaaGreatDoor
section
open Go.RowKit
theorem run_append_u64B {w : World} (base : Nat) (v : Value) (n : Nat) (xs : List Nat) (hown : w.ownsRow base 24 1 v n (u64C xs)) (A : Option Addr) (m c : Nat) (l : List Nat) (hr : Rd w 1 A m (u64C l)) (hb : n + m ≤ 1000000000000) (hbase : base ≤ w.heap.size) :
 ∃ v' w', (Builtin.append_ #[151, 151] 151 #[v, .slice A m c]).run Tryz.prog w = .ok v' w' ∧ w'.ownsRow base 24 1 v' (n + m) (u64C (xs ++ l)) ∧ w.grownBy w' v.ownBlock := by
 rw [u64C_append]
 exact run_append_rd base _ _ _ _ 1 8 Tryz.underlying151 Tryz.info_u64 rfl (by omega) v n _ hown A m c _ hr (u64C_one l) (by unfold maxLen; omega) (by omega) hbase
theorem run_append_u64G {w : World} (base : Nat) (v : Value) (n : Nat) (xs : List Nat) (hown : w.ownsRow base 24 1 v n (u64C xs)) (A : Option Addr) (m c : Nat) (l : List Nat) (hr : Rd w 1 A m (u64C l)) (hb : n + m ≤ 1000000000000) (hbase : base ≤ w.heap.size) (hm : 0 < m) :
 ∃ v' w', (Builtin.append_ #[151, 151] 151 #[v, .slice A m c]).run Tryz.prog w = .ok v' w' ∧ w'.ownsRow base 24 1 v' (n + m) (u64C (xs ++ l)) ∧ Grw w w' v v' := by
 rcases hown.2 with ⟨rfl, h0⟩ | ⟨g, cap, cur, rfl, hg, hrow, hnc, hcm, hcs, htake⟩
 · have hx : xs = [] := by
    have := hown.1
    rw [h0] at this
    simp only [u64C, List.length_map] at this
    exact List.length_eq_zero_iff.1 (by omega)
   subst h0 hx
   obtain ⟨v', w', h1, h2, h3⟩ := run_append_u64B (w := w) w.heap.size (.slice none 0 0) 0 [] (World.ownsRow_nil _ _ _ _) A m c l hr hb (Nat.le_refl _)
   exact ⟨v', w', h1, own_mono h2 hbase, h3, fun k e => .inr (h2.lt _ e).1⟩
 · obtain ⟨i, hi, hz, hs, hby⟩ := info_parts Tryz.info_u64
   obtain ⟨b, o, rfl, -⟩ := hr.2 hm
   have hnews := hr.news (by omega)
   have hl1 : (u64C l).length = m := by have := hr.1; omega
   rw [u64C_append]
   by_cases hf : n + m ≤ cap
   · obtain ⟨w', r1, r2, r3⟩ := run_append_fits (P := Tryz.prog) w base 151 151 24 i 1 Tryz.underlying151 hi hs g n cap _ hown ⟨b, o, none⟩ m c (u64C l) (by omega) hnews (u64C_one l) hf
     exact ⟨_, w', r1, r2, r3, fun k e => .inl e⟩
   · obtain ⟨v', w', r1, r2, r3⟩ := run_append_arg_grows (P := Tryz.prog) w 151 151 24 i _ 1 8 Tryz.underlying151 hi hz hs hby rfl (by omega) ⟨g, 0, none⟩ n cap (u64C xs) hown.1 (fun j u hu => hown.cells (g := g) rfl j u hu) ⟨b, o, none⟩ m c (u64C l) (by omega) hnews (by omega) (by unfold maxLen; omega) (by omega)
     exact ⟨v', w', r1, own_mono r2 hbase, ⟨r3.os, r3.tape, r3.output, r3.size, fun k hk _ => r3.block k hk (by simp)⟩, fun k e => .inr (r2.lt _ e).1⟩
theorem wpList_append_u64B {w : World} {ops : Array Oper} {rest : List Oper} {o : Oper} {a : Act} {Q : Exit → Act → World → Prop} (hgd : o.guard = none) (s x : Operand)
 (ho : o.op = .call { callee := .builtin .append, args := #[s, x], argTypes := #[151, 151] }) (hty : o.type = 151)
 (base : Nat) (v : Value) (n : Nat) (xs : List Nat) (hs : a.eval s = v) (hown : w.ownsRow base 24 1 v n (u64C xs)) (A : Option Addr) (m c : Nat) (l : List Nat) (hx : a.eval x = .slice A m c) (hr : Rd w 1 A m (u64C l)) (hb : n + m ≤ 1000000000000) (hbase : base ≤ w.heap.size)
 (h : ∀ v' w', w'.ownsRow base 24 1 v' (n + m) (u64C (xs ++ l)) → Below base w w' → wpList Tryz.prog ops Q rest (a.put o.dst v') w') : wpList Tryz.prog ops Q (o :: rest) a w := by
 obtain ⟨v', w', hrun, h1, h2⟩ := run_append_u64B base v n xs hown A m c l hr hb hbase
 exact wpList_append_hr _ _ _ ho (by simp [Region.wanted, hgd]) _ _ hs hx v' w' (by rw [hty]; exact hrun) (h v' w' h1 (Below.grown (B := base) (Below.refl _ _) h2 hbase (fun k hk => (hown.lt k hk).1)))
theorem step_append_u64B {w : World} {ops : Array Oper} {o : Oper} {a : Act} {K : Act → World → Prop} {Q : Exit → Act → World → Prop} {E : Prop} (hgd : o.guard = none) (s x : Operand)
 (ho : o.op = .call { callee := .builtin .append, args := #[s, x], argTypes := #[151, 151] }) (hty : o.type = 151)
 (base : Nat) (v : Value) (n : Nat) (xs : List Nat) (hs : a.eval s = v) (hown : w.ownsRow base 24 1 v n (u64C xs)) (A : Option Addr) (m c : Nat) (l : List Nat) (hx : a.eval x = .slice A m c) (hr : Rd w 1 A m (u64C l)) (hb : n + m ≤ 1000000000000) (hbase : base ≤ w.heap.size)
 (h : ∀ v' w', w'.ownsRow base 24 1 v' (n + m) (u64C (xs ++ l)) → Below base w w' → K (a.put o.dst v') w') :
 if Region.wanted o (yielded ops a.tmps) = true then Oper.wp Tryz.prog o a w K Q else E := by
 obtain ⟨v', w', hrun, h1, h2⟩ := run_append_u64B base v n xs hown A m c l hr hb hbase
 exact step_append_hr hgd s x _ ho _ _ hs hx v' w' (by rw [hty]; exact hrun) (h v' w' h1 (Below.grown (B := base) (Below.refl _ _) h2 hbase (fun k hk => (hown.lt k hk).1)))
theorem wpList_append_u64G {w : World} {ops : Array Oper} {rest : List Oper} {o : Oper} {a : Act} {Q : Exit → Act → World → Prop} (hgd : o.guard = none) (s x : Operand)
 (ho : o.op = .call { callee := .builtin .append, args := #[s, x], argTypes := #[151, 151] }) (hty : o.type = 151)
 (base : Nat) (v : Value) (n : Nat) (xs : List Nat) (hs : a.eval s = v) (hown : w.ownsRow base 24 1 v n (u64C xs)) (A : Option Addr) (m c : Nat) (l : List Nat) (hx : a.eval x = .slice A m c) (hr : Rd w 1 A m (u64C l)) (hb : n + m ≤ 1000000000000) (hbase : base ≤ w.heap.size) (hm : 0 < m)
 (h : ∀ v' w', w'.ownsRow base 24 1 v' (n + m) (u64C (xs ++ l)) → Grw w w' v v' → wpList Tryz.prog ops Q rest (a.put o.dst v') w') : wpList Tryz.prog ops Q (o :: rest) a w := by
 obtain ⟨v', w', hrun, h1, h2⟩ := run_append_u64G base v n xs hown A m c l hr hb hbase hm
 exact wpList_append_hr _ _ _ ho (by simp [Region.wanted, hgd]) _ _ hs hx v' w' (by rw [hty]; exact hrun) (h v' w' h1 h2)
theorem step_append_u64G {w : World} {ops : Array Oper} {o : Oper} {a : Act} {K : Act → World → Prop} {Q : Exit → Act → World → Prop} {E : Prop} (hgd : o.guard = none) (s x : Operand)
 (ho : o.op = .call { callee := .builtin .append, args := #[s, x], argTypes := #[151, 151] }) (hty : o.type = 151)
 (base : Nat) (v : Value) (n : Nat) (xs : List Nat) (hs : a.eval s = v) (hown : w.ownsRow base 24 1 v n (u64C xs)) (A : Option Addr) (m c : Nat) (l : List Nat) (hx : a.eval x = .slice A m c) (hr : Rd w 1 A m (u64C l)) (hb : n + m ≤ 1000000000000) (hbase : base ≤ w.heap.size) (hm : 0 < m)
 (h : ∀ v' w', w'.ownsRow base 24 1 v' (n + m) (u64C (xs ++ l)) → Grw w w' v v' → K (a.put o.dst v') w') :
 if Region.wanted o (yielded ops a.tmps) = true then Oper.wp Tryz.prog o a w K Q else E := by
 obtain ⟨v', w', hrun, h1, h2⟩ := run_append_u64G base v n xs hown A m c l hr hb hbase hm
 exact step_append_hr hgd s x _ ho _ _ hs hx v' w' (by rw [hty]; exact hrun) (h v' w' h1 h2)
theorem own_len {w : World} {base : Nat} {T : TypeId} {v : Value} {n m : Nat} {xs : List Value} (h : w.ownsRow base T 1 v n xs) (e : n = m) : w.ownsRow base T 1 v m xs := e ▸ h
theorem Rd.u64_at {w : World} {A : Option Addr} {n : Nat} {l : List Nat} (h : Rd w 1 A n (u64C l)) (hn : 0 < n) : ∃ b o, A = some ⟨b, o, none⟩ ∧ ∀ j, j < l.length → w.cell? ⟨b, o + j, none⟩ = some (.int .u64 ((nth l j : Nat) : Int)) := by
 obtain ⟨b, o, e, hc⟩ := h.2 hn
 exact ⟨b, o, e, fun j hj => hc j _ (u64C_get l j hj)⟩
set_option maxRecDepth 20000 in
set_option maxHeartbeats 4000000 in
theorem refDiffs17_any (a : Option Addr) (n c ap : Nat) (l : List Iv) (w : World) (hI : Ivs w a n c l) (hD : DiffOk l ap) (hn : n ≤ 100000) (hap : ap ≤ 1) :
 Calls Tryz.prog 181 #[.slice a n c, .int .u64 ap] w fun e w' => (∃ v, e = .returned v ∧ w'.ownsRow w.heap.size 24 1 v (2 * n) (u64C (diffsN l ap))) ∧ Below w.heap.size w w' := by
 have HI := Lib.hid hI
 have Hl := Lib.hid hI.len
 have HD := Lib.hid hD
 have Hlt := Lib.hid hI.lt
 have Hall := Lib.hid (show diffsN l ap = diffsTo l ap n from by rw [← hI.len]; rfl)
 clear hI hD
 go_enter Tryz.func181, Tryz.ntmps181
 go_wp2
 go_loopw [5, 6] (fun v i wr => ∃ d : Nat, d ≤ n ∧ i = .int .i64 d ∧ Below w.heap.size w wr ∧ Hid (wr.ownsRow w.heap.size 24 1 v (2 * d) (u64C (diffsTo l ap d)))) (fun _ i _ => n - (intOf i).toNat)
 case atStart => exact ⟨0, by omega, rfl, Below.refl _ _, World.ownsRow_nil _ _ _ _⟩
 case round =>
  obtain ⟨d, hd, rfl, hb, ho⟩ := hrel
  have Hb := Lib.hid hb; clear hb
  by_cases hdn : d < n
  · obtain ⟨bl, ol, rfl⟩ := HI.out.some (by omega)
    obtain ⟨g1, g2⟩ := HD.out d (by rw [Hl.out]; exact hdn)
    have l1 := (Hlt.out _ (nthI_mem (l := l) (k := d) (by rw [Hl.out]; exact hdn)))
    have Hst := Lib.hid (show diffsTo l ap (d + 1) = diffsTo l ap d ++ [gapI l ap d] ++ [(nthI l d).2 - (nthI l d).1] from by rw [List.append_assoc]; rfl)
    have Hg := Lib.hid (show gapI l ap d = if d = 0 then (nthI l 0).1 else (nthI l d).1 - (nthI l (d - 1)).2 - 1 - ap from rfl)
    have hg0 : d = 0 → nthI l 0 = nthI l d := fun h => by rw [h]
    have h0 : (0 : Int) ≤ d := by omega
    have h04 : (d : Int) < (n : Int) := by omega
    have hbr : Below w.heap.size w wr := Hb.out
    have hz : w.heap.size ≤ wr.heap.size := hbr.size
    have r1 : ∀ w', Below w.heap.size wr w' → w'.cell? ⟨bl, ol + d * 2, none⟩ = some (.int .u64 (((nthI l d).1 : Nat) : Int)) := fun w' h => (HI.out.at hdn w' (hbr.trans h)).1
    have r2 : ∀ w', Below w.heap.size wr w' → w'.cell? ⟨bl, ol + d * 2 + 1, none⟩ = some (.int .u64 (((nthI l d).2 : Nat) : Int)) := fun w' h => (HI.out.at hdn w' (hbr.trans h)).2
    have Hc' := Lib.hid (fun (h1 : d - 1 < n) w' (h : Below w.heap.size wr w') => (HI.out.at h1 w' (hbr.trans h)).2)
    generalize gapI l ap d = gp at *
    generalize nthI l 0 = s0 at *
    generalize nthI l d = s at *
    generalize nthI l (d - 1) = p at *
    obtain ⟨sx, sy⟩ := s
    obtain ⟨px, py⟩ := p
    simp only at r1 r2 Hc' Hst Hg g1 g2 l1
    have hsz : IntKind.u64.wrap ((sy : Int) - (sx : Int)) = ((sy - sx : Nat) : Int) := by rw [IntKind.wrap_u64]; omega
    generalize sy - sx = sz at *
    have HoW := Lib.hid (fun W (h : Below wr.heap.size wr W) => own_below ho.out h)
    rcases Nat.eq_zero_or_pos d with hd0 | hd0
    · have hgp : gp = sx := by rw [Hg.out, if_pos hd0, hg0 hd0]
      have hq1 : ((d : Int) == 0) = true := by rw [beq_iff_eq]; omega
      have q1 := r1 _ (Below.refl _ _)
      have Hal := Lib.hid (Below.alloc (Below.refl wr.heap.size wr) (Nat.le_refl _) (.cells #[.int .u64 gp] 24))
      have Hau := Lib.hid (Below.alloc (Below.refl w.heap.size wr) hz (.cells #[.int .u64 gp] 24))
      subst hgp
      clear Hc' g1 g2 l1 Hg hg0 hd0
      go_wp2_with (at_builtin; refine wpList_append_u64B rfl (.tmp 15) (.tmp 21) rfl rfl w.heap.size _ (2 * d) _ rfl (HoW.out _ Hal.out) _ 1 1 [gp] rfl (rd_block (heap_at_new _ _ _ rfl) rfl rfl) (by omega) (Nat.le_trans hz Hal.out.size) ?_; intro v1 w1 ho1 hg1)
      have hS1 := Hau.out.trans hg1
      clear hg1 q1 Hal Hau
      go_region_held3 (fun w' => Below w.heap.size wr w') (first | assumption | exact Below.drew (by assumption) | exact Below.alloc (by assumption) (Nat.le_trans hz (Below.size (by assumption))) _) (first
       | (refine step_append_u64B rfl (.tmp 41) (.tmp 53) rfl rfl w.heap.size _ _ _ rfl (own_below ho1 (by first | exact ((Below.refl _ _).alloc (Nat.le_refl _) _).drew | exact ((Below.refl _ _).drew).alloc (by simp) _)) _ 1 _ [sz] rfl (rd_block (by first | exact heap_at_new _ _ _ (by simp) | exact heap_at_old _ _ _ _ (heap_at_new _ _ _ (by simp))) rfl rfl) (by omega) (by have := hS1.size; simp <;> omega) ?_
          intro v2 w2 ho2 hg2
          have hS2 : Below w.heap.size wr w2 := Below.trans (by assumption) hg2))
      all_goals
       go_wp2
       go_roundw
       case rel => exact ⟨d + 1, by omega, by go_num, hbr.trans hS2, by rw [Hst.out]; exact ho2⟩
       case measure => simp [intOf]; omega
    · have g2 := g2 hd0
      have hgp : gp = sx - py - 1 - ap := by rw [Hg.out, if_neg (by omega)]
      have hq1 : ((d : Int) == 0) = false := by rw [beq_eq_false_iff_ne]; omega
      have hsub : IntKind.i64.wrap ((d : Int) - 1) = ((d - 1 : Nat) : Int) := by rw [IntKind.wrap_i64]; omega
      have h01 : (0 : Int) ≤ ((d - 1 : Nat) : Int) := by omega
      have h03 : ((d - 1 : Nat) : Int) < (n : Int) := by omega
      have r3 := Hc'.out (by omega)
      have hw1 : IntKind.u64.wrap ((sx : Int) - (py : Int)) = ((sx - py : Nat) : Int) := by rw [IntKind.wrap_u64]; omega
      have hw2 : IntKind.u64.wrap (((sx - py : Nat) : Int) - 1) = ((sx - py - 1 : Nat) : Int) := by rw [IntKind.wrap_u64]; omega
      have hw3 : IntKind.u64.wrap (((sx - py - 1 : Nat) : Int) - (ap : Int)) = (gp : Int) := by rw [IntKind.wrap_u64, hgp]; omega
      clear Hc' g1 g2 l1 Hg hg0 hgp
      generalize sx - py - 1 = t2 at *
      generalize sx - py = t1 at *
      generalize d - 1 = d1 at *
      go_wp2_with fail
      go_region_held3 (fun w' => Below w.heap.size wr w') (first | assumption | exact Below.refl _ _ | exact (Below.refl _ _).drew | exact Below.drew (by assumption) | exact Below.alloc (by assumption) (Nat.le_trans hz (Below.size (by assumption))) _) (first
       | (refine step_append_u64B rfl (.tmp 23) (.tmp 39) rfl rfl w.heap.size _ (2 * d) _ rfl (HoW.out _ (by first | exact ((Below.refl _ _).alloc (Nat.le_refl _) _).drew | exact ((Below.refl _ _).drew).alloc (by simp) _)) _ 1 _ [gp] rfl (rd_block (by first | exact heap_at_new _ _ _ (by simp) | exact heap_at_old _ _ _ _ (heap_at_new _ _ _ (by simp))) rfl rfl) (by omega) (by simp <;> omega) ?_
          intro v1 w1 ho1 hg1
          have hS1 : Below w.heap.size wr w1 := Below.trans (by assumption) hg1))
      all_goals
       clear hg1
       go_wp2_with fail
       go_region_held3 (fun w' => Below w.heap.size wr w') (first | assumption | exact Below.drew (by assumption) | exact Below.alloc (by assumption) (Nat.le_trans hz (Below.size (by assumption))) _) (first
        | (refine step_append_u64B rfl (.tmp 41) (.tmp 53) rfl rfl w.heap.size _ _ _ rfl (own_below ho1 (by first | exact ((Below.refl _ _).alloc (Nat.le_refl _) _).drew | exact ((Below.refl _ _).drew).alloc (by simp) _)) _ 1 _ [sz] rfl (rd_block (by first | exact heap_at_new _ _ _ (by simp) | exact heap_at_old _ _ _ _ (heap_at_new _ _ _ (by simp))) rfl rfl) (by omega) (by have := hS1.size; simp <;> omega) ?_
           intro v2 w2 ho2 hg2
           have hS2 : Below w.heap.size wr w2 := Below.trans (by assumption) hg2))
       all_goals
        go_wp2
        go_roundw
        case rel => exact ⟨d + 1, by omega, by go_num, hbr.trans hS2, by rw [Hst.out]; exact ho2⟩
        case measure => simp [intOf]; omega
  · obtain rfl : d = n := by omega
    have Ho := Lib.hid ho.out
    rw [← Hall.out] at Ho
    go_wp2
    go_ret
    exact ⟨⟨_, rfl, Ho.out⟩, Hb.out⟩
theorem entN_three (v : Vec) (d : Nat) : packTo v (d + 1) = packTo v d ++ [repD v d] ++ [(nthE v d).2.1, (nthE v d).2.2.length] ++ diffsN (nthE v d).2.2 1 := by
 rw [packTo, entN]
 simp only [List.append_assoc, List.cons_append, List.nil_append]
set_option maxRecDepth 20000 in
set_option maxHeartbeats 4000000 in
theorem refNumbers18_any (a : Option Addr) (n cap : Nat) (v : Vec) (w : World) (hE : Ents w a n cap v) (hasc : v.Pairwise RepLt) (hG : ∀ e ∈ v, Good e.2.2) (hn : n ≤ 300) (hh : ∀ e ∈ v, e.2.2.length ≤ 500) :
 Calls Tryz.prog 147 #[.slice a n cap] w fun x w' => (∃ y, x = .returned y ∧ w'.ownsRow w.heap.size 24 1 y (packN v).length (u64C (packN v))) ∧ Below w.heap.size w w' := by
 have HE := Lib.hid hE
 have Hl := Lib.hid hE.len
 have Hmem := Lib.hid hE.lt
 have HG := Lib.hid hG; have HH := Lib.hid hh; have Hasc := Lib.hid (List.pairwise_iff_getElem.1 hasc)
 have Hlen := Lib.hid (fun d (hd : d ≤ v.length) => packTo_len v hh d hd)
 have hw : IntKind.u64.wrap (n : Int) = (n : Int) := by rw [IntKind.wrap_u64]; omega
 have ho0 := World.ownsRow_lit (e := 24) (size := 1) (base := w.heap.size) w (u64C [n]).toArray 1 (Nat.le_refl _) (by unfold maxLen; omega) rfl
 have Ho0 := Lib.hid ho0
 have hb0 : Below w.heap.size w (w.alloc (.cells (u64C [n]).toArray 24)) := (Below.refl _ _).alloc (Nat.le_refl _) _
 clear hE hG hh hasc ho0
 go_enter Tryz.func147, Tryz.ntmps147
 go_wp2
 go_loopw [3, 4] (fun y i wr => ∃ d : Nat, d ≤ n ∧ i = .int .i64 d ∧ Below w.heap.size w wr ∧ Hid (wr.ownsRow w.heap.size 24 1 y (packTo v d).length (u64C (packTo v d)))) (fun _ i _ => n - (intOf i).toNat)
 case atStart => exact ⟨0, by omega, rfl, hb0, by
  have := Ho0.out
  rw [show packTo v 0 = [n] from by rw [packTo, Hl.out]]
  exact this⟩
 case round =>
  obtain ⟨d, hd, rfl, hb, ho⟩ := hrel
  have Hb := Lib.hid hb; clear hb
  by_cases hdn : d < n
  · have hdv : d < v.length := by rw [Hl.out]; exact hdn
    obtain ⟨bb, oo, rfl⟩ := HE.out.some (by omega)
    obtain ⟨x, m, c, hq⟩ := HE.out.fix hdn
    have hbr : Below w.heap.size w wr := Hb.out
    have hz : w.heap.size ≤ wr.heap.size := hbr.size
    have r1 : ∀ w', Below w.heap.size wr w' → w'.cell? ⟨bb, oo + d * 3, none⟩ = some (.int .u64 (((nthE v d).1 : Nat) : Int)) := fun w' h => (hq w' (hbr.trans h)).1
    have r2 : ∀ w', Below w.heap.size wr w' → w'.cell? ⟨bb, oo + d * 3 + 1, none⟩ = some (.int .u64 (((nthE v d).2.1 : Nat) : Int)) := fun w' h => (hq w' (hbr.trans h)).2.1
    have r3 : ∀ w', Below w.heap.size wr w' → w'.cell? ⟨bb, oo + d * 3 + 2, none⟩ = some (.slice x m c) := fun w' h => (hq w' (hbr.trans h)).2.2.1
    have HIv := Lib.hid (fun w' (h : Below w.heap.size wr w') => (hq w' (hbr.trans h)).2.2.2)
    have hIv := HIv.out _ (Below.refl _ _)
    have hml := hIv.len
    have hmh : m ≤ 500 := by rw [← hml]; exact HH.out _ (nthE_mem hdv)
    have HDf := Lib.hid (good_diff (HG.out _ (nthE_mem hdv)))
    have hwm : IntKind.u64.wrap (m : Int) = (m : Int) := by rw [IntKind.wrap_u64]; omega
    have Hst := Lib.hid (entN_three v d)
    rw [hml] at Hst
    have Hrd := Lib.hid (show repD v d = if d = 0 then (nthE v 0).1 else (nthE v d).1 - (nthE v (d - 1)).1 - 1 from rfl)
    have hr0 : d = 0 → (nthE v 0).1 = (nthE v d).1 := fun h => by rw [h]
    have hlp : 0 < d → (nthE v (d - 1)).1 < (nthE v d).1 := fun h => by
     have := Hasc.out (d - 1) d (by omega) hdv (by omega)
     rw [nthE_get hdv, nthE_get (by omega)]
     exact this
    have l1 := (Hmem.out _ (nthE_mem hdv)).rep
    have hln := Hlen.out d (by omega)
    have hdl : (diffsN (nthE v d).2.2 1).length = 2 * m := by unfold diffsN; rw [diffsTo_len, hml]
    have Hc' := Lib.hid (fun (h1 : d - 1 < n) => show ∀ w', Below w.heap.size wr w' → w'.cell? ⟨bb, oo + (d - 1) * 3, none⟩ = some (.int .u64 (((nthE v (d - 1)).1 : Nat) : Int)) from by
     obtain ⟨_, _, _, hq'⟩ := HE.out.fix h1
     exact fun w' h => (hq' w' (hbr.trans h)).1)
    clear hq hIv hml
    generalize repD v d = rp at *
    generalize (nthE v (d - 1)).1 = pr at *
    generalize nthE v d = e at *
    obtain ⟨er, em, eh⟩ := e
    simp only at r1 r2 HIv HDf Hst Hrd hr0 hlp l1 hdl
    generalize packTo v d = P at *
    have HoW := Lib.hid (fun W (h : Below wr.heap.size wr W) => own_below ho.out h)
    rcases Nat.eq_zero_or_pos d with hd0 | hd0
    case' inl =>
     have hgp : rp = er := by rw [Hrd.out, if_pos hd0, hr0 hd0]
     have hq1 : ((d : Int) == 0) = true := by rw [beq_iff_eq]; omega
     have q1 := r1 _ (Below.refl _ _)
     have Hal := Lib.hid (Below.alloc (Below.refl wr.heap.size wr) (Nat.le_refl _) (.cells #[.int .u64 rp] 24))
     have Hau := Lib.hid (Below.alloc (Below.refl w.heap.size wr) hz (.cells #[.int .u64 rp] 24))
     subst hgp
     clear Hc' hlp l1 Hrd hr0 hd0
     go_wp2_with (at_builtin; refine wpList_append_u64B rfl (.tmp 17) (.tmp 23) rfl rfl w.heap.size _ P.length _ rfl (HoW.out _ Hal.out) _ 1 1 [rp] rfl (rd_block (heap_at_new _ _ _ rfl) rfl rfl) (by omega) (Nat.le_trans hz Hal.out.size) ?_; intro v1 w1 ho1 hg1)
     have hS1 := Hau.out.trans hg1
     clear hg1 q1 Hal Hau
    case' inr =>
     have hlp := hlp hd0
     have hgp : rp = er - pr - 1 := by rw [Hrd.out, if_neg (by omega)]
     have hq1 : ((d : Int) == 0) = false := by rw [beq_eq_false_iff_ne]; omega
     have hsub : IntKind.i64.wrap ((d : Int) - 1) = ((d - 1 : Nat) : Int) := by rw [IntKind.wrap_i64]; omega
     have h01 : (0 : Int) ≤ ((d - 1 : Nat) : Int) := by omega
     have h03 : ((d - 1 : Nat) : Int) < (n : Int) := by omega
     have h0 : (0 : Int) ≤ d := by omega
     have h04 : (d : Int) < (n : Int) := by omega
     have r4 := Hc'.out (by omega)
     have hw1 : IntKind.u64.wrap ((er : Int) - (pr : Int)) = ((er - pr : Nat) : Int) := by rw [IntKind.wrap_u64]; omega
     have hw2 : IntKind.u64.wrap (((er - pr : Nat) : Int) - 1) = (rp : Int) := by rw [IntKind.wrap_u64, hgp]; omega
     clear Hc' hlp l1 Hrd hr0 hgp
     generalize er - pr = t1 at *
     generalize d - 1 = d1 at *
     go_wp2_with fail
     go_region_held3 (fun w' => Below w.heap.size wr w') (first | assumption | exact Below.refl _ _ | exact (Below.refl _ _).drew | exact Below.drew (by assumption) | exact Below.alloc (by assumption) (Nat.le_trans hz (Below.size (by assumption))) _) (first
      | (refine step_append_u64B rfl (.tmp 25) (.tmp 39) rfl rfl w.heap.size _ P.length _ rfl (HoW.out _ (by first | exact ((Below.refl _ _).alloc (Nat.le_refl _) _).drew | exact ((Below.refl _ _).drew).alloc (by simp) _)) _ 1 _ [rp] rfl (rd_block (by first | exact heap_at_new _ _ _ (by simp) | exact heap_at_old _ _ _ _ (heap_at_new _ _ _ (by simp))) rfl rfl) (by omega) (by simp <;> omega) ?_
         intro v1 w1 ho1 hg1
         have hS1 : Below w.heap.size wr w1 := Below.trans (by assumption) hg1))
     all_goals clear hg1
     all_goals go_wp2_with fail
    all_goals
     have h0 : (0 : Int) ≤ d := by omega
     have h04 : (d : Int) < (n : Int) := by omega
     go_region_held3 (fun w' => Below w.heap.size wr w') (first | assumption | exact Below.drew (by assumption) | exact Below.alloc (by assumption) (Nat.le_trans hz (Below.size (by assumption))) _) (first
      | (refine step_append_u64B rfl (.tmp 41) (.tmp 54) rfl rfl w.heap.size _ _ _ rfl (own_below ho1 (by first | exact ((Below.refl _ _).alloc (Nat.le_refl _) _).drew | exact ((Below.refl _ _).drew).alloc (by simp) _)) _ 2 _ [em, m] rfl (rd_block (by first | exact heap_at_new _ _ _ (by simp) | exact heap_at_old _ _ _ _ (heap_at_new _ _ _ (by simp))) rfl rfl) (by omega) (by have := hS1.size; simp <;> omega) ?_
         intro v2 w2 ho2 hg2
         have hS2 : Below w.heap.size wr w2 := Below.trans (by assumption) hg2))
     all_goals
      have q3 := r3 _ hS2
      have HD := Lib.hid (refDiffs17_any x m c 1 eh w2 (HIv.out _ hS2) HDf.out (by omega) (by omega))
      rw [show ((1 : Nat) : Int) = 1 from rfl] at HD
      have Ho2 := Lib.hid ho2
      clear hg2 ho2 ho1 hS1 r1 r2 r3
      go_wp2_with fail
      refine HD.out.mono ?_
      rintro z w3 ⟨⟨vd, rfl, hod⟩, hb3⟩
      obtain ⟨ad, cd, rfl⟩ := own_slice hod
      have hbz : Below w.heap.size wr w3 := hS2.trans (hb3.mono (Nat.le_trans hz hS2.size))
      have Ho3 := Lib.hid (own_below Ho2.out hb3)
      have Hrd3 := Lib.hid (Rd.own hod)
      clear hod hb3 q3 HD Ho2
      go_wp2_with (at_builtin; refine wpList_append_u64B rfl (.tmp 56) (.tmp 62) rfl rfl w.heap.size _ _ _ rfl Ho3.out _ (2 * m) _ (diffsN eh 1) rfl Hrd3.out (by omega) (Nat.le_trans hz hbz.size) ?_; intro v4 w4 ho4 hg4)
      have hS4 := hbz.trans hg4
      clear hg4
      go_wp2
      go_roundw
      case rel => exact ⟨d + 1, by omega, by go_num, hbr.trans hS4, by
       rw [Hst.out]
       refine own_len ho4 ?_
       simp only [List.length_append, List.length_cons, List.length_nil, hdl]⟩
      case measure => simp [intOf]; omega
  · obtain rfl : d = n := by omega
    have Ho := Lib.hid ho.out
    rw [← Hl.out, show packTo v v.length = packN v from rfl] at Ho
    go_wp2
    go_ret
    exact ⟨⟨_, rfl, Ho.out⟩, Hb.out⟩
set_option maxRecDepth 20000 in
set_option maxHeartbeats 4000000 in
theorem refJoin18_any (a : Option Addr) (n cap : Nat) (l : List Nat) (w : World) (hr : Rd w 1 a n (u64C l)) (hl : l.length = n) (hlt : ∀ x ∈ l, x < 18446744073709551616) (hn : n ≤ 90000000000) :
 Calls Tryz.prog 103 #[.slice a n cap] w fun x w' => (∃ y, x = .returned y ∧ OwnB w' w.heap.size y l) ∧ Below w.heap.size w w' := by
 have HR := Lib.hid (fun W (h : Below w.heap.size w W) => hr.below h)
 have Hl := Lib.hid hl; have Hlt := Lib.hid hlt
 clear hr hl hlt
 go_enter Tryz.func103, Tryz.ntmps103
 go_wp2
 go_loopw [3, 4] (fun y i wr => ∃ d : Nat, d ≤ n ∧ i = .int .i64 d ∧ Below w.heap.size w wr ∧ Hid (OwnB wr w.heap.size y (l.take d))) (fun _ i _ => n - (intOf i).toNat)
 case atStart => exact ⟨0, by omega, rfl, Below.refl _ _, by rw [List.take_zero]; exact ownB_nil _ _⟩
 case round =>
  obtain ⟨d, hd, rfl, hb, ho⟩ := hrel
  have Hb := Lib.hid hb; clear hb
  by_cases hdn : d < n
  · have hdl : d < l.length := by rw [Hl.out]; exact hdn
    obtain ⟨bb, oo, rfl, hcell⟩ := (HR.out _ Hb.out).u64_at (by omega)
    have q1 := hcell d (by rw [Hl.out]; exact hdn)
    have hx := Hlt.out _ (nth_mem hdl)
    have Hst := Lib.hid (show l.take (d + 1) = l.take d ++ [nth l d] from by rw [List.take_succ_eq_append_getElem hdl]; simp [nth, hdl])
    have HV := Lib.hid (refvar_any 9 (nth l d) wr (by omega) hx (Nat.le_refl _))
    have Hjl := Lib.hid (joinB_len (l.take d))
    have Htl : (l.take d).length = d := by rw [List.length_take]; omega
    have h0 : (0 : Int) ≤ d := by omega
    have h04 : (d : Int) < (n : Int) := by omega
    clear hcell
    generalize nth l d = x at *
    generalize l.take d = P at *
    go_wp2_with fail
    refine HV.out.mono ?_
    rintro z w1 ⟨v1, rfl, ho1, hb1⟩
    obtain ⟨a1, c1, rfl, hB1⟩ := byts_own ho1 (vbF_lt 9 x)
    have Ho1 := Lib.hid (ho.out.below hb1)
    have hbb : Below w.heap.size w w1 := Hb.out.trans (hb1.mono Hb.out.size)
    obtain ⟨v2, w2, hr2, ho2, hg2⟩ := run_append_byts w.heap.size _ _ _ Ho1.out a1 _ c1 _ hB1 (by have := Hjl.out; have := vbF_len_le 9 x; omega) hbb.size
    have Ho2 := Lib.hid ho2
    have Hb2 := Lib.hid (hbb.grown hg2 hbb.size (fun k hk => (Ho1.out.lt k hk).1))
    have Hr2 := Lib.hid hr2
    clear hr2 ho2 hg2 hb1 ho1 hB1 hbb q1
    go_wp2_with (at_builtin; refine wpList_append_hr _ _ 103 rfl rfl _ _ rfl rfl _ _ Hr2.out ?_)
    go_roundw
    case rel => exact ⟨d + 1, by omega, by go_num, Hb2.out, by
     rw [Hst.out]
     unfold OwnB
     rw [joinB_app, joinB_one, List.length_append, u8s_append]
     exact Ho2.out⟩
    case measure => simp [intOf]; omega
  · obtain rfl : d = n := by omega
    have Ho := Lib.hid ho.out
    rw [show l.take d = l from List.take_of_length_le (by rw [Hl.out]; exact Nat.le_refl _)] at Ho
    go_wp2
    go_ret
    exact ⟨⟨_, rfl, Ho.out⟩, Hb.out⟩
end
end Go.Proofs.YtkkdlgcfcbaibaaGreatDoor
