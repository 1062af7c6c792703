/- Walks and laws, merged: part 6. -/
import Derived.Shelf.SlSortCmp.WholeK
import Derived.Ground.SlsfProg
import Derived.Test.YtkkdlgcfcbaibaaGreatDoorProg
import Derived.Shelf.Small.Bits
import Derived.Shelf.Small.Wraps
import Derived.Shelf.Strconv.Itoa0
import Derived.Shelf.Slices.Equal
import Derived.Ground.Names2Prog
import Derived.Shelf.Slices.SearchI
import Derived.Shelf.Slices.Empties2
import Derived.Deep.RegionHeld3
import Derived.Test.YtkkdlgcfcbaibaaGreatDoorPt03
import Derived.Test.YtkkdlgcfcbaibaaGreatDoorPt05
import Derived.Test.YtkkdlgcfcbaibaaGreatDoorPt04
section
namespace Go.Proofs
open Go.Shelf
def Tryz.pdqIv_ren : Go.Shelf.Ren := ⟨fun | 14 => 72 | 20 => 121 | 21 => 122 | 22 => 123 | 23 => 124 | 24 => 125 | 25 => 126 | 26 => 127 | 27 => 128 | 46 => 169 | 47 => 170 | 48 => 171 | 49 => 172 | 50 => 173 | 15 => 73 | 57 => 201 | 28 => 129 | 29 => 130 | n => n, fun | 24 => 73 | 22 => 27 | 3 => 3 | 25 => 78 | 4 => 4 | 0 => 0 | 46 => 170 | 45 => 169 | 50 => 174 | 66 => 224 | 39 => 124 | 55 => 24 | 70 => 91 | 76 => 257 | 77 => 64 | 53 => 177 | 5 => 5 | 9 => 9 | n => n, fun | n => n⟩
theorem Tryz.pdqIv : Go.Proofs.SlLaysF0.n14 Tryz.prog Tryz.pdqIv_ren := {
  mixed := by kernel_rfl
  f14 := ⟨Tryz.f72.name, by decide, Tryz.func72.trans (congrArg some (by kernel_rfl))⟩
  f15 := Tryz.func73.trans (congrArg some (by kernel_rfl))
  f20 := ⟨Tryz.f121.name, by decide, Tryz.func121.trans (congrArg some (by kernel_rfl))⟩
  f21 := ⟨Tryz.f122.name, by decide, Tryz.func122.trans (congrArg some (by kernel_rfl))⟩
  f22 := ⟨Tryz.f123.name, by decide, Tryz.func123.trans (congrArg some (by kernel_rfl))⟩
  f23 := ⟨Tryz.f124.name, by decide, Tryz.func124.trans (congrArg some (by kernel_rfl))⟩
  f24 := ⟨Tryz.f125.name, by decide, Tryz.func125.trans (congrArg some (by kernel_rfl))⟩
  f25 := ⟨Tryz.f126.name, by decide, Tryz.func126.trans (congrArg some (by kernel_rfl))⟩
  f26 := ⟨Tryz.f127.name, by decide, Tryz.func127.trans (congrArg some (by kernel_rfl))⟩
  f27 := ⟨Tryz.f128.name, by decide, Tryz.func128.trans (congrArg some (by kernel_rfl))⟩
  f28 := Tryz.func129.trans (congrArg some (by kernel_rfl))
  f29 := Tryz.func130.trans (congrArg some (by kernel_rfl))
  f46 := ⟨Tryz.f169.name, by decide, Tryz.func169.trans (congrArg some (by kernel_rfl))⟩
  f47 := Tryz.func170.trans (congrArg some (by kernel_rfl))
  f48 := Tryz.func171.trans (congrArg some (by kernel_rfl))
  f49 := ⟨Tryz.f172.name, by decide, Tryz.func172.trans (congrArg some (by kernel_rfl))⟩
  f50 := ⟨Tryz.f173.name, by decide, Tryz.func173.trans (congrArg some (by kernel_rfl))⟩
  f57 := ⟨Tryz.f201.name, by decide, Tryz.func201.trans (congrArg some (by kernel_rfl))⟩
  t0 := Tryz.underlying0
  a0 := Tryz.isAgg0
  z0 := Tryz.sizeOf0
  v0 := Tryz.zeroValue0
  t3 := Tryz.underlying3
  a3 := Tryz.isAgg3
  z3 := Tryz.sizeOf3
  v3 := Tryz.zeroValue3
  t4 := Tryz.underlying4
  a4 := Tryz.isAgg4
  z4 := Tryz.sizeOf4
  v4 := Tryz.zeroValue4
  t5 := Tryz.underlying5
  a5 := Tryz.isAgg5
  z5 := Tryz.sizeOf5
  v5 := Tryz.zeroValue5
  t9 := Tryz.underlying9
  a9 := Tryz.isAgg9
  z9 := Tryz.sizeOf9
  v9 := Tryz.zeroValue9
  t22 := Tryz.underlying27
  a22 := Tryz.isAgg27
  z22 := Tryz.sizeOf27
  v22 := Tryz.zeroValue27
  t25 := Tryz.underlying78
  a25 := Tryz.isAgg78
  z25 := Tryz.sizeOf78
  v25 := Tryz.zeroValue78
  t39 := Tryz.underlying124
  a39 := Tryz.isAgg124
  z39 := Tryz.sizeOf124
  v39 := Tryz.zeroValue124
  t45 := Tryz.underlying169
  a45 := Tryz.isAgg169
  z45 := Tryz.sizeOf169
  v45 := Tryz.zeroValue169
  t46 := Tryz.underlying170
  a46 := Tryz.isAgg170
  z46 := Tryz.sizeOf170
  v46 := Tryz.zeroValue170
  t50 := Tryz.underlying174
  a50 := Tryz.isAgg174
  z50 := Tryz.sizeOf174
  v50 := Tryz.zeroValue174
  t53 := Tryz.underlying177
  a53 := Tryz.isAgg177
  z53 := Tryz.sizeOf177
  v53 := Tryz.zeroValue177
  t55 := Tryz.underlying24
  a55 := Tryz.isAgg24
  z55 := Tryz.sizeOf24
  v55 := Tryz.zeroValue24
  t66 := Tryz.underlying224
  a66 := Tryz.isAgg224
  z66 := Tryz.sizeOf224
  v66 := Tryz.zeroValue224
  t70 := Tryz.underlying91
  a70 := Tryz.isAgg91
  z70 := Tryz.sizeOf91
  v70 := Tryz.zeroValue91
  t76 := Tryz.underlying257
  a76 := Tryz.isAgg257
  z76 := Tryz.sizeOf257
  v76 := Tryz.zeroValue257
  t77 := Tryz.underlying64
  a77 := Tryz.isAgg64
  z77 := Tryz.sizeOf64
  v77 := Tryz.zeroValue64 }
end Go.Proofs
end

section
namespace Go.Proofs
open Go.Shelf
def Tryz.lays125_ren : Go.Shelf.Ren := ⟨fun | 125 => 73 | 128 => 129 | 129 => 130 | n => n, fun | 46 => 124 | 3 => 3 | 51 => 177 | 53 => 24 | 4 => 4 | 5 => 5 | 9 => 9 | n => n, fun | n => n⟩
theorem Tryz.lays125 : Go.Proofs.Lays.n125 Tryz.prog Tryz.lays125_ren := {
  mixed := by kernel_rfl
  f125 := Tryz.func73.trans (congrArg some (by kernel_rfl))
  f128 := Tryz.func129.trans (congrArg some (by kernel_rfl))
  f129 := Tryz.func130.trans (congrArg some (by kernel_rfl))
  t3 := Tryz.underlying3
  a3 := Tryz.isAgg3
  z3 := Tryz.sizeOf3
  v3 := Tryz.zeroValue3
  t4 := Tryz.underlying4
  a4 := Tryz.isAgg4
  z4 := Tryz.sizeOf4
  v4 := Tryz.zeroValue4
  t5 := Tryz.underlying5
  a5 := Tryz.isAgg5
  z5 := Tryz.sizeOf5
  v5 := Tryz.zeroValue5
  t9 := Tryz.underlying9
  a9 := Tryz.isAgg9
  z9 := Tryz.sizeOf9
  v9 := Tryz.zeroValue9
  t46 := Tryz.underlying124
  a46 := Tryz.isAgg124
  z46 := Tryz.sizeOf124
  v46 := Tryz.zeroValue124
  t51 := Tryz.underlying177
  a51 := Tryz.isAgg177
  z51 := Tryz.sizeOf177
  v51 := Tryz.zeroValue177
  t53 := Tryz.underlying24
  a53 := Tryz.isAgg24
  z53 := Tryz.sizeOf24
  v53 := Tryz.zeroValue24 }
/-- bits.Len: "Len returns the minimum number of bits required to represent x; the result is 0 for x == 0.": IT RETURNS 'Lib.bitLen x'; the world is as it was. (A uint has 64 bits in the model.) ITS CALLEE bits.Len64 IS MET BY ITS OWN CONTRACT OFF THE SHELF (lay that first). (LAID: no walk: one application.) -/
theorem Tryz.bits_Len (x : Int) (w : World) (h0 : 0 ≤ x) (h1 : x ≤ 18446744073709551615) :
    Calls Tryz.prog 73 #[.int .u64 x] w fun e w' => e = .returned (.int .i64 (Lib.bitLen x.toNat)) ∧ w' = w := Any.bits_Len Tryz.lays125 x w h0 h1
open Go.RowKit in
open Go.RowKit in
def Tryz.lays111_ren : Go.Shelf.Ren := ⟨fun | 111 => 15 | n => n, fun | 28 => 29 | 3 => 3 | 4 => 4 | 0 => 0 | n => n, fun | n => n⟩
theorem Tryz.lays111 : Go.Proofs.Lays.n111 Tryz.prog Tryz.lays111_ren := {
  mixed := by kernel_rfl
  f111 := Tryz.func15.trans (congrArg some (by kernel_rfl))
  t0 := Tryz.underlying0
  a0 := Tryz.isAgg0
  z0 := Tryz.sizeOf0
  v0 := Tryz.zeroValue0
  t3 := Tryz.underlying3
  a3 := Tryz.isAgg3
  z3 := Tryz.sizeOf3
  v3 := Tryz.zeroValue3
  t4 := Tryz.underlying4
  a4 := Tryz.isAgg4
  z4 := Tryz.sizeOf4
  v4 := Tryz.zeroValue4
  t28 := Tryz.underlying29
  a28 := Tryz.isAgg29
  z28 := Tryz.sizeOf29
  v28 := Tryz.zeroValue29 }
open Go.RowKit Go.Lib in
/-- slices.Equal at []int: "Equal reports whether two slices are equal: the same length and all elements equal. If the lengths are different, Equal returns false. Otherwise, the elements are compared in increasing index order, and the comparison stops at the first unequal pair. Empty and nil slices are considered equal.": IT RETURNS WHETHER THE TWO LISTS OF ELEMENTS ARE ONE; the world is as it was but for the count of draws (the test 's1[i] != s2[i]' has two reads, whose order the model draws, once a round). 'xs', 'ys': what the cells behind the two addresses hold (the spare capacity too, if you have it); 'xs.take n', 'ys.take m': the elements. THE TWO SLICES MAY OVERLAP. (LAID: no walk: one application.) -/
theorem Tryz.slices_Equal_int (b1 o1 n c b2 o2 m d : Nat) (xs ys : List Int) (w : World) (hx : n ≤ xs.length) (hy : m ≤ ys.length) (hbig : n ≤ 9223372036854775807) (hbig2 : m ≤ 9223372036854775807) (hc1 : ∀ j, j < xs.length → w.cell? ⟨b1, o1 + j, none⟩ = some (.int .i64 (xs.getD j 0))) (hc2 : ∀ j, j < ys.length → w.cell? ⟨b2, o2 + j, none⟩ = some (.int .i64 (ys.getD j 0))) :
    Calls Tryz.prog 15 #[.slice (some ⟨b1, o1, none⟩) n c, .slice (some ⟨b2, o2, none⟩) m d] w fun e w' => e = .returned (.bool (xs.take n == ys.take m)) ∧ ∃ q, w' = w.drewN q := Any.slices_Equal_int Tryz.lays111 b1 o1 n c b2 o2 m d xs ys w hx hy hbig hbig2 hc1 hc2
open Go.RowKit Go.Lib in
/-- The same where the first is of length 0 (a nil one too): no cell is asked for. (LAID: no walk: one application.) -/
theorem Tryz.slices_Equal_int_empty (a1 a2 : Option Addr) (c m d : Nat) (w : World) (hbig2 : m ≤ 9223372036854775807) :
    Calls Tryz.prog 15 #[.slice a1 0 c, .slice a2 m d] w fun e w' => e = .returned (.bool (decide (m = 0))) ∧ w' = w := Any.slices_Equal_int_empty Tryz.lays111 a1 a2 c m d w hbig2
open Go.RowKit Go.Lib in
open Go.RowKit Go.Lib in
theorem Tryz.slices_Equal_int_lens (a1 a2 : Option Addr) (n c m d : Nat) (w : World) (hnm : n ≠ m) :
    Calls Tryz.prog 15 #[.slice a1 n c, .slice a2 m d] w fun e w' => e = .returned (.bool false) ∧ w' = w := Any.slices_Equal_int_lens Tryz.lays111 a1 a2 n c m d w hnm
end Go.Proofs
end

section
namespace Go.Proofs.YtkkdlgcfcbaibaaGreatDoor
open Go.RowKit
set_option linter.unusedVariables false

theorem isNaN_any (x : Nat) (w : World) : Calls Tryz.prog 74 #[.int .u64 x] w fun e w' => e = .returned (.bool false) ∧ w' = w := by
  go_enter Tryz.func74, Tryz.ntmps74
  go_wp2
  go_ret
  exact ⟨by simp, rfl⟩

theorem cmp_any (x y : Nat) (w : World) : Calls Tryz.prog 41 #[.int .u64 x, .int .u64 y] w fun e w' => e = .returned (.int .i64 (Lib.compareInt (x : Int) (y : Int))) ∧ w' = w := by
  unfold Lib.compareInt
  by_cases h1 : x < y
  · rw [if_pos (by omega)]
    go_enter Tryz.func41, Tryz.ntmps41
    go_wp2_with (go_at_call 74; refine (isNaN_any _ _).mono ?_; rintro e w1 ⟨rfl, rfl⟩)
    go_ret
    exact ⟨rfl, rfl⟩
  · rw [if_neg (by omega)]
    by_cases h2 : y < x
    · rw [if_pos (by omega)]
      go_enter Tryz.func41, Tryz.ntmps41
      go_wp2_with (go_at_call 74; refine (isNaN_any _ _).mono ?_; rintro e w1 ⟨rfl, rfl⟩)
      go_ret
      exact ⟨rfl, rfl⟩
    · rw [if_neg (by omega)]
      go_enter Tryz.func41, Tryz.ntmps41
      go_wp2_with (go_at_call 74; refine (isNaN_any _ _).mono ?_; rintro e w1 ⟨rfl, rfl⟩)
      go_ret
      exact ⟨rfl, rfl⟩

end Go.Proofs.YtkkdlgcfcbaibaaGreatDoor
end

section
namespace Go.Proofs.YtkkdlgcfcbaibaaGreatDoor
open Go.RowKit Go.Sort
set_option linter.unusedVariables false

set_option maxHeartbeats 1000000 in
theorem closure_any (x y : Iv) (W : World) : Calls Tryz.prog 40 #[.agg #[.int .u64 ((x.1 : Nat) : Int), .int .u64 ((x.2 : Nat) : Int)], .agg #[.int .u64 ((y.1 : Nat) : Int), .int .u64 ((y.2 : Nat) : Int)]] W fun e w' => e = .returned (.int .i64 (cfI x y)) ∧ ∃ q os', w' = grow (W.drewN q) os' := by
  have hcon := fun W' => cmp_any x.1 y.1 W'
  unfold cfI
  generalize Lib.compareInt (x.1 : Int) (y.1 : Int) = r at hcon ⊢
  obtain ⟨a, b⟩ := x
  obtain ⟨c, d⟩ := y
  go_enter Tryz.func40, Tryz.ntmps40
  go_wp2_with (go_at_call 41; refine (hcon _).mono ?_; rintro e w' ⟨rfl, rfl⟩)
  go_ret
  exact ⟨rfl, 0, _, by rw [alloc_eq_grow, alloc_eq_grow, grow_grow]; rfl⟩

theorem cmpLays_any (g size : Nat) (w : World) : CmpLays Tryz.prog 40 #[] encI 2 cfI g 0 size w :=
  fun _ _ _ _ x y => closure_any x y _

theorem Tryz.isAgg_iv (w : World) : (isAgg 73).run Tryz.prog w = .ok true w := by go_simp
theorem Tryz.sizeOf_iv (w : World) : (Go.sizeOf 73).run Tryz.prog w = .ok 2 w := by go_simp

set_option maxHeartbeats 2000000 in
set_option maxRecDepth 100000 in
theorem sortIv_any (g n cap : Nat) (l : List Iv) (w : World) (hl : l.length = n) (hH : HoldsK encI 2 w g 0 l.toArray) (hg : g < w.heap.size) (hn : n ≤ 100000) :
    Calls Tryz.prog 39 #[.slice (some ⟨g, 0, none⟩) n cap, .func (.func 40) #[] #[]] w fun e w' =>
      e = .returned (.tuple #[]) ∧ ∃ l' m os, l'.Perm l ∧ AscLo l' ∧ w' = sortWorldK encI 2 w g 0 m l'.toArray os := by
  have eg : ∀ args w, (callFunc 40 args).run Tryz.prog w = .ok (.enter 40 args) w := enters_of Tryz.func40 (by kernel_rfl) rfl
  have hsz : l.toArray.size = n := by simpa using hl
  have hb : Lib.bitLen n < 4611686018427387904 := Nat.lt_of_le_of_lt (Lib.bitLen_le n 62 (by omega) (by omega)) (by omega)
  have hp := AnyQ.pdqsortCmpFunc_all Tryz.pdqIv 2 Tryz.isAgg_iv Tryz.sizeOf_iv encI cfI 40 #[] swoI g 0 cap l.toArray w eg (cmpLays_any g l.toArray.size w) ⟨fun _ => rfl, fun x v hv => by simp [encI] at hv; rcases hv with rfl | rfl <;> rfl, hH, hg⟩ (l.toArray.size + 1) 0 l.toArray.size (Lib.bitLen n) l.toArray w (by omega) rfl (SWK.start hH) (Nat.zero_le _) (Nat.le_refl _) (by omega) hb (Or.inl rfl)
  have hs := pdq_sorts (ltOf cfI) swoI l.toArray 0 l.toArray.size (Lib.bitLen n) true true (Nat.zero_le _) (Nat.le_refl _) (Or.inl rfl)
  rw [hsz] at hp
  change Calls Tryz.prog 72 _ _ _ at hp
  have hq := perm_list hs.1
  have hsort := sorted_list hs.1.1 hs.2
  rw [hsz] at hq hsort
  generalize pdq (ltOf cfI) l.toArray 0 n (Lib.bitLen n) true true = r at hp hq hsort
  have Hl := Lib.hid (fun w => Tryz.bits_Len (n : Int) w (by omega) (by omega))
  rw [Int.toNat_natCast] at Hl
  generalize Lib.bitLen n = bl at *
  have Hp := Lib.hid hp
  have Hq := Lib.hid hq
  have Hs := Lib.hid hsort
  have wr : IntKind.u64.wrap (n : Int) = n := by rw [IntKind.wrap_u64]; omega
  clear hs hq hsort hp hH eg hsz hb hl
  go_enter Tryz.func39, Tryz.ntmps39
  go_wp2_with (first | (go_at_call 73; refine (Hl.out _).mono ?_; rintro e w' ⟨rfl, rfl⟩) | (go_at_call 72; refine Hp.out.mono ?_; rintro e w' ⟨rfl, n, os, rfl⟩))
  go_end0
  exact ⟨rfl, r.toList, _, _, by simpa using Hq.out, Hs.out, rfl⟩

end Go.Proofs.YtkkdlgcfcbaibaaGreatDoor
end

section
namespace Go.Proofs.YtkkdlgcfcbaibaaGreatDoor
open Go.RowKit
set_option linter.unusedVariables false

theorem own_empty {w : World} {base g sz : Nat} {e : TypeId} (h : w.heap[g]? = some (.cells #[] e (0, 0))) (hb : base ≤ g) : w.ownsRow base e sz (.slice (some ⟨g, 0, none⟩) 0 0) 0 [] :=
  ⟨by simp, .inr ⟨g, 0, #[], rfl, hb, h, Nat.le_refl _, by unfold maxLen; omega, by simp, by simp⟩⟩

theorem rd_block {w : World} {g sz n : Nat} {e : TypeId} {C : Array Value} {fr : Nat × Nat} {xs : List Value} (h : w.heap[g]? = some (.cells C e fr)) (hC : C = xs.toArray) (hx : xs.length = n * sz) : Rd w sz (some ⟨g, 0, none⟩) n xs := by
  subst hC
  refine ⟨hx, fun _ => ⟨g, 0, rfl, fun j u hu => ?_⟩⟩
  simp only [World.cell?, h]
  simpa using hu

/-- An append in a region that draws its order: what it leaves is told to the rest. -/
theorem step_append_iv {w : World} {ops : Array Oper} {o : Oper} {a : Act} {K : Act → World → Prop} {Q : Exit → Act → World → Prop} {E : Prop} (hgd : o.guard = none) (s x : Operand)
    (ho : o.op = .call { callee := .builtin .append, args := #[s, x], argTypes := #[28, 28] }) (hty : o.type = 28)
    (base : Nat) (v : Value) (n : Nat) (xs : List Iv) (hs : a.eval s = v) (hown : w.ownsRow base 73 2 v n (ivC xs)) (A : Option Addr) (m c : Nat) (l : List Iv) (hx : a.eval x = .slice A m c) (hr : Rd w 2 A m (ivC l)) (hb : n + m ≤ 1000000) (hbase : base ≤ w.heap.size)
    (h : ∀ v' w', w'.ownsRow base 73 2 v' (n + m) (ivC (xs ++ l)) → w.grownBy w' v.ownBlock → K (a.put o.dst v') w') :
    if Region.wanted o (yielded ops a.tmps) = true then Oper.wp Tryz.prog o a w K Q else E := by
  obtain ⟨v', w', hrun, h1, h2⟩ := run_append_iv base v n xs hown A m c l hr hb hbase
  exact step_append_hr hgd s x _ ho _ _ hs hx v' w' (by rw [hty]; exact hrun) (h v' w' h1 h2)

theorem heap_at_new (w : World) (o : Obj) (g : Nat) (h : g = w.heap.size) : (w.alloc o).heap[g]? = some o := by subst h; exact heap_alloc_new w o
theorem heap_at_old (w : World) (o v : Obj) (g : Nat) (h : w.heap[g]? = some v) : (w.alloc o).heap[g]? = some v := (Below.heap_alloc w o g (by
  rcases Nat.lt_or_ge g w.heap.size with h' | h'
  · exact h'
  · rw [Array.getElem?_eq_none h'] at h; cases h)).trans h

theorem own_mono {w : World} {base b size n : Nat} {e : TypeId} {v : Value} {xs : List Value} (h : w.ownsRow base e size v n xs) (hb : b ≤ base) : w.ownsRow b e size v n xs :=
  ⟨h.1, h.2.imp id fun ⟨g, cap, cur, h1, h2, r⟩ => ⟨g, cap, cur, h1, Nat.le_trans hb h2, r⟩⟩

theorem rd_grown {w w' : World} {row : Option Nat} {sz g n : Nat} {xs : List Value} (hg : w.grownBy w' row) (h : Rd w sz (some ⟨g, 0, none⟩) n xs) (hr : some g ≠ row) (hlt : g < w.heap.size) : Rd w' sz (some ⟨g, 0, none⟩) n xs :=
  ⟨h.1, fun hn => by
    obtain ⟨b, o, e, hc⟩ := h.2 hn
    cases e
    refine ⟨_, _, rfl, fun j u hu => ?_⟩
    rw [← hc j u hu]
    exact World.cell?_of_block (hg.block _ hlt hr)⟩

set_option maxRecDepth 20000 in
set_option maxHeartbeats 2000000 in
theorem refPut_touch (g n k cap : Nat) (l : List Iv) (t s : Iv) (w0 w : World) (hb : Below w0.heap.size w0 w) (hown : w.ownsRow w0.heap.size 73 2 (.slice (some ⟨g, 0, none⟩) n cap) n (ivC (l ++ [t]))) (hk : n = k + 1) (hn : n ≤ 100000)
    (ht : t.1 < 18446744073709551616 ∧ t.2 < 18446744073709551616) (hs : s.1 < 18446744073709551616 ∧ s.2 < 18446744073709551616) (hts : relR t s = 1) :
    Calls Tryz.prog 185 #[.slice (some ⟨g, 0, none⟩) n cap, ivV s] w fun e w' => (∃ v', e = .returned v' ∧ w'.ownsRow w0.heap.size 73 2 v' n (ivC (l ++ [(t.1, s.2)]))) ∧ Below w0.heap.size w0 w' := by
  have hl : l.length = k := by have := hown.1; rw [ivC_length] at this; simp at this; omega
  have hR := Lib.hid (fun w => refRelate_any t s w ht hs)
  rw [hts] at hR
  have hcap : n ≤ cap := by
    rcases hown.2 with ⟨h', _⟩ | ⟨g', cap', cur, h', _, _, hnc, _⟩
    · simp at h'
    · simp only [Value.slice.injEq, Option.some.injEq, Addr.mk.injEq, and_true, true_and] at h'
      obtain ⟨rfl, rfl⟩ := h'
      exact hnc
  obtain ⟨e1, e2⟩ := ivC_get (l ++ [t]) k (by simp; omega)
  have hnt : nthI (l ++ [t]) k = t := by rw [nthI_get (by simp; omega), List.getElem_append_right (by omega)]; simp
  rw [hnt] at e1 e2
  have hc1 := (hown.cellAt (k * 2) (by omega)).trans e1
  have hc2 := (hown.cellAt (k * 2 + 1) (by omega)).trans e2
  have Ho := Lib.hid hown; have Hb := Lib.hid hb; have Hl := Lib.hid hl
  have hsub : IntKind.i64.wrap ((n : Int) - 1) = (k : Int) := by rw [IntKind.wrap_i64]; omega
  have hg0 : decide (0 < (n : Int)) = true := by rw [decide_eq_true_iff]; omega
  have hn0 : 0 < n := by omega
  have h01 : (k : Int) < (n : Int) := by omega
  have h02 : k ≤ cap := by omega
  have Hk := Lib.hid hk
  have hgl := cell_lt hc1
  simp only at hgl
  clear ht hs hts hown hb hl hnt e1 e2 hk hcap
  obtain ⟨x, y⟩ := t
  obtain ⟨z, u⟩ := s
  go_enter Tryz.func185, Tryz.ntmps185
  go_wp2_with fail
  have hA : Below w.heap.size w (w.alloc (.cells #[.int .u64 z, .int .u64 u] 73)) := (Below.refl _ _).alloc (Nat.le_refl _) _
  have q1 := (hA.cell (p := ⟨g, k * 2, none⟩) hgl).trans hc1
  have q2 := (hA.cell (p := ⟨g, k * 2 + 1, none⟩) hgl).trans hc2
  have q3 : (w.alloc (.cells #[.int .u64 z, .int .u64 u] 73)).cell? ⟨w.heap.size, 0, none⟩ = some (.int .u64 z) := by simp [go_sem]
  have q4 : (w.alloc (.cells #[.int .u64 z, .int .u64 u] 73)).cell? ⟨w.heap.size, 1, none⟩ = some (.int .u64 u) := by simp [go_sem]
  have HA := Lib.hid hA
  have Hgs := Lib.hid (show w.heap.size < (w.alloc (.cells #[.int .u64 z, .int .u64 u] 73)).heap.size from by simp)
  clear hA hc1 hc2
  generalize hW : w.alloc (.cells #[.int .u64 z, .int .u64 u] 73) = W at *
  have HW := Lib.hid hW; clear hW
  refine wp_region_below (by kernel_rfl) (by kernel_rfl) ?_
  repeat (go_big_quiet_step ((intro hw; first
    | rfl
    | (go_at_call 99; exact keep_below hw (hR.out _))
    | (have q1 := (hw.cell (p := ⟨g, k * 2, none⟩) (cell_lt q1)).trans q1
       have q2 := (hw.cell (p := ⟨g, k * 2 + 1, none⟩) (cell_lt q2)).trans q2
       have q3 := (hw.cell (p := ⟨w.heap.size, 0, none⟩) (cell_lt q3)).trans q3
       have q4 := (hw.cell (p := ⟨w.heap.size, 1, none⟩) (cell_lt q4)).trans q4
       go_simp
       first | rfl | exact ⟨rfl, hw⟩))))
  refine wpQuiet_nil ?_
  intro w3 hb3
  have q1 := (hb3.cell (p := ⟨g, k * 2, none⟩) (cell_lt q1)).trans q1
  have q2 := (hb3.cell (p := ⟨g, k * 2 + 1, none⟩) (cell_lt q2)).trans q2
  have q3 := (hb3.cell (p := ⟨w.heap.size, 0, none⟩) (cell_lt q3)).trans q3
  have q4 := (hb3.cell (p := ⟨w.heap.size, 1, none⟩) (cell_lt q4)).trans q4
  have Hw3 := Lib.hid (HA.out.trans (hb3.mono HA.out.size))
  clear hb3
  go_wp2_with fail
  have r1 : ∀ w', Below w3.heap.size w3 w' → w'.cell? ⟨g, k * 2, none⟩ = some (.int .u64 x) := fun w' h => (h.cell (p := ⟨g, k * 2, none⟩) (cell_lt q1)).trans q1
  have r3 : ∀ w', Below w3.heap.size w3 w' → w'.cell? ⟨w.heap.size, 1, none⟩ = some (.int .u64 u) := fun w' h => (h.cell (p := ⟨w.heap.size, 1, none⟩) (cell_lt q4)).trans q4
  have Hrd := Lib.hid (show ∀ w', Below w3.heap.size w3 w' → Rd w' 2 (some ⟨g, 0, none⟩) k (ivC l) from fun w' h => by
    have h1 := (Rd.own (own_take Ho.out k (by omega))).below (Hw3.out.trans (h.mono Hw3.out.size))
    rwa [ivC_append, List.take_left' (by rw [ivC_length, Hl.out])] at h1)
  have Hz3 := Lib.hid Hw3.out.size
  clear q1 q2 q3 q4
  go_region_held3 (fun w' => Below w3.heap.size w3 w') (first | assumption | exact (Below.refl _ _).drew | exact Below.alloc (by assumption) (Below.size (by assumption)) _) (first
    | (refine step_append_iv rfl (.tmp 20) (.tmp 24) rfl rfl w3.heap.size _ 0 [] rfl (own_empty (by first | exact heap_at_new _ _ _ (by simp) | exact heap_at_old _ _ _ _ (heap_at_new _ _ _ (by simp))) (by simp <;> omega)) _ k _ l rfl (Hrd.out _ (by assumption)) (by omega) (by simp <;> omega) ?_
       intro v1 w1 ho1 hg1
       have hS1 : Below w3.heap.size w3 w1 := by
         refine Below.grown ?_ hg1 ?_ ?_
         · assumption
         · simp <;> omega
         · intro j hj
           simp [Value.ownBlock, Act.eval] at hj
           omega)
    | (refine step_append_iv rfl (.tmp 25) (.tmp 35) rfl rfl w3.heap.size _ _ _ rfl (by first | exact ho1 | exact ho1.alloc _) _ 1 _ [(x, u)] rfl (by first | exact rd_block (heap_at_new _ _ _ (by simp)) rfl rfl | exact rd_grown hg1 (rd_block (by first | exact heap_at_new _ _ _ (by simp) | exact heap_at_old _ _ _ _ (heap_at_new _ _ _ (by simp))) rfl rfl) (by simp [Value.ownBlock, Act.eval]) (by simp <;> omega)) (by omega) (by have := hS1.size; simp <;> omega) ?_
       intro v2 w2 ho2 hg2
       have hS2 : Below w3.heap.size w3 w2 := by
         refine Below.grown ?_ hg2 ?_ (fun j hj => (ho1.lt j hj).1)
         · assumption
         · have := hS1.size
           simp <;> omega))
  all_goals
    go_wp2
    go_ret
    refine ⟨⟨v2, rfl, ?_⟩, Hb.out.trans (Hw3.out.trans (hS2.mono Hw3.out.size) |>.mono Hb.out.size)⟩
    have h := own_mono ho2 (Nat.le_trans Hb.out.size Hw3.out.size)
    rw [show (0 : Nat) + k + 1 = n by have := Hk.out; omega] at h
    simpa using h

end Go.Proofs.YtkkdlgcfcbaibaaGreatDoor
end

section
namespace Go.Proofs.YtkkdlgcfcbaibaaGreatDoor
open Go.RowKit
set_option linter.unusedVariables false

set_option maxHeartbeats 2000000 in
theorem refPut_nil (a : Option Addr) (cap : Nat) (s : Iv) (w0 w : World) (hb : Below w0.heap.size w0 w) (hown : w.ownsRow w0.heap.size 73 2 (.slice a 0 cap) 0 []) :
    Calls Tryz.prog 185 #[.slice a 0 cap, ivV s] w fun e w' => (∃ v', e = .returned v' ∧ w'.ownsRow w0.heap.size 73 2 v' 1 (ivC [s])) ∧ Below w0.heap.size w0 w' := by
  have Ho := Lib.hid hown; have Hb := Lib.hid hb
  clear hown hb
  obtain ⟨z, u⟩ := s
  go_enter Tryz.func185, Tryz.ntmps185
  go_wp2_with fail
  have hA : Below w.heap.size w (w.alloc (.cells #[.int .u64 z, .int .u64 u] 73)) := (Below.refl _ _).alloc (Nat.le_refl _) _
  have q3 : (w.alloc (.cells #[.int .u64 z, .int .u64 u] 73)).cell? ⟨w.heap.size, 0, none⟩ = some (.int .u64 z) := by simp [go_sem]
  have q4 : (w.alloc (.cells #[.int .u64 z, .int .u64 u] 73)).cell? ⟨w.heap.size, 1, none⟩ = some (.int .u64 u) := by simp [go_sem]
  have HA := Lib.hid hA
  clear hA
  generalize hW : w.alloc (.cells #[.int .u64 z, .int .u64 u] 73) = W at *
  have HW := Lib.hid hW; clear hW
  refine wp_region_below (by kernel_rfl) (by kernel_rfl) ?_
  repeat (go_big_quiet_step ((intro hw; rfl)))
  refine wpQuiet_nil ?_
  intro w3 hb3
  have q3 := (hb3.cell (p := ⟨w.heap.size, 0, none⟩) (cell_lt q3)).trans q3
  have q4 := (hb3.cell (p := ⟨w.heap.size, 1, none⟩) (cell_lt q4)).trans q4
  have Hw3 := Lib.hid (HA.out.trans (hb3.mono HA.out.size))
  clear hb3
  have Hz := Lib.hid (Nat.le_trans Hb.out.size Hw3.out.size)
  obtain ⟨v', w', hr, ho, hg⟩ := run_append_iv w0.heap.size (.slice a 0 cap) 0 [] ((own_below Ho.out Hw3.out).alloc (.cells #[.int .u64 z, .int .u64 u] 73)) (some ⟨w3.heap.size, 0, none⟩) 1 1 [(z, u)] (rd_block (heap_at_new _ _ _ rfl) rfl rfl) (by omega) (by have := Hz.out; simp; omega)
  have Ho' := Lib.hid ho; clear ho
  have Hb' := Lib.hid ((Hb.out.trans (Hw3.out.mono Hb.out.size)).alloc Hz.out (.cells #[.int .u64 z, .int .u64 u] 73) |>.grown hg (by have := Hz.out; simp; omega) (fun k hk => (Ho.out.lt k hk).1))
  clear hg
  go_wp2_with (at_builtin; refine wpList_append_hr _ _ 28 rfl rfl _ _ rfl rfl _ _ hr ?_)
  go_ret
  exact ⟨⟨v', rfl, by simpa using Ho'.out⟩, Hb'.out⟩

set_option maxRecDepth 20000 in
set_option maxHeartbeats 2000000 in
theorem refPut_apart (g n k cap : Nat) (l : List Iv) (t s : Iv) (w0 w : World) (hb : Below w0.heap.size w0 w) (hown : w.ownsRow w0.heap.size 73 2 (.slice (some ⟨g, 0, none⟩) n cap) n (ivC (l ++ [t]))) (hk : n = k + 1) (hn : n ≤ 100000)
    (ht : t.1 < 18446744073709551616 ∧ t.2 < 18446744073709551616) (hs : s.1 < 18446744073709551616 ∧ s.2 < 18446744073709551616) (hts : relR t s ≠ 1) :
    Calls Tryz.prog 185 #[.slice (some ⟨g, 0, none⟩) n cap, ivV s] w fun e w' => (∃ v', e = .returned v' ∧ w'.ownsRow w0.heap.size 73 2 v' (n + 1) (ivC (l ++ [t] ++ [s]))) ∧ Below w0.heap.size w0 w' := by
  have hl : l.length = k := by have := hown.1; rw [ivC_length] at this; simp at this; omega
  have hR := Lib.hid (fun w => refRelate_any t s w ht hs)
  have hne : (((relR t s : Nat) : Int) == 1) = false := by rw [beq_eq_false_iff_ne]; omega
  generalize relR t s = r at *
  obtain ⟨e1, e2⟩ := ivC_get (l ++ [t]) k (by simp; omega)
  have hnt : nthI (l ++ [t]) k = t := by rw [nthI_get (by simp; omega), List.getElem_append_right (by omega)]; simp
  rw [hnt] at e1 e2
  have hc1 := (hown.cellAt (k * 2) (by omega)).trans e1
  have hc2 := (hown.cellAt (k * 2 + 1) (by omega)).trans e2
  have Ho := Lib.hid hown; have Hb := Lib.hid hb; have Hl := Lib.hid hl
  have hsub : IntKind.i64.wrap ((n : Int) - 1) = (k : Int) := by rw [IntKind.wrap_i64]; omega
  have hg0 : decide (0 < (n : Int)) = true := by rw [decide_eq_true_iff]; omega
  have hn0 : 0 < n := by omega
  have h01 : (k : Int) < (n : Int) := by omega
  have Hk := Lib.hid hk
  have hgl := cell_lt hc1
  simp only at hgl
  clear ht hs hts hown hb hl hnt e1 e2 hk
  obtain ⟨x, y⟩ := t
  obtain ⟨z, u⟩ := s
  go_enter Tryz.func185, Tryz.ntmps185
  go_wp2_with fail
  have hA : Below w.heap.size w (w.alloc (.cells #[.int .u64 z, .int .u64 u] 73)) := (Below.refl _ _).alloc (Nat.le_refl _) _
  have q1 := (hA.cell (p := ⟨g, k * 2, none⟩) hgl).trans hc1
  have q2 := (hA.cell (p := ⟨g, k * 2 + 1, none⟩) hgl).trans hc2
  have q3 : (w.alloc (.cells #[.int .u64 z, .int .u64 u] 73)).cell? ⟨w.heap.size, 0, none⟩ = some (.int .u64 z) := by simp [go_sem]
  have q4 : (w.alloc (.cells #[.int .u64 z, .int .u64 u] 73)).cell? ⟨w.heap.size, 1, none⟩ = some (.int .u64 u) := by simp [go_sem]
  have HA := Lib.hid hA
  clear hA hc1 hc2
  generalize hW : w.alloc (.cells #[.int .u64 z, .int .u64 u] 73) = W at *
  have HW := Lib.hid hW; clear hW
  refine wp_region_below (by kernel_rfl) (by kernel_rfl) ?_
  repeat (go_big_quiet_step ((intro hw; first
    | rfl
    | (go_at_call 99; exact keep_below hw (hR.out _))
    | (have q1 := (hw.cell (p := ⟨g, k * 2, none⟩) (cell_lt q1)).trans q1
       have q2 := (hw.cell (p := ⟨g, k * 2 + 1, none⟩) (cell_lt q2)).trans q2
       have q3 := (hw.cell (p := ⟨w.heap.size, 0, none⟩) (cell_lt q3)).trans q3
       have q4 := (hw.cell (p := ⟨w.heap.size, 1, none⟩) (cell_lt q4)).trans q4
       go_simp
       first | rfl | exact ⟨rfl, hw⟩))))
  refine wpQuiet_nil ?_
  intro w3 hb3
  have q3 := (hb3.cell (p := ⟨w.heap.size, 0, none⟩) (cell_lt q3)).trans q3
  have q4 := (hb3.cell (p := ⟨w.heap.size, 1, none⟩) (cell_lt q4)).trans q4
  have Hw3 := Lib.hid (HA.out.trans (hb3.mono HA.out.size))
  clear hb3 q1 q2
  have Hz := Lib.hid (Nat.le_trans Hb.out.size Hw3.out.size)
  obtain ⟨v', w', hr, ho, hg⟩ := run_append_iv w0.heap.size (.slice (some ⟨g, 0, none⟩) n cap) n (l ++ [(x, y)]) ((own_below Ho.out Hw3.out).alloc (.cells #[.int .u64 z, .int .u64 u] 73)) (some ⟨w3.heap.size, 0, none⟩) 1 1 [(z, u)] (rd_block (heap_at_new _ _ _ rfl) rfl rfl) (by omega) (by have := Hz.out; simp; omega)
  have Ho' := Lib.hid ho; clear ho
  have Hb' := Lib.hid ((Hb.out.trans (Hw3.out.mono Hb.out.size)).alloc Hz.out (.cells #[.int .u64 z, .int .u64 u] 73) |>.grown hg (by have := Hz.out; simp; omega) (fun k hk => (Ho.out.lt k hk).1))
  clear hg
  go_wp2_with (at_builtin; refine wpList_append_hr _ _ 28 rfl rfl _ _ rfl rfl _ _ hr ?_)
  go_ret
  exact ⟨⟨v', rfl, Ho'.out⟩, Hb'.out⟩

theorem relR_one {a b : Iv} : relR a b = 1 ↔ a.2 + 1 = b.1 := by
  unfold relR
  repeat' split
  all_goals omega

theorem refPut_any (v : Value) (n : Nat) (l : List Iv) (s : Iv) (w0 w : World) (hb : Below w0.heap.size w0 w) (hown : w.ownsRow w0.heap.size 73 2 v n (ivC l)) (hn : n ≤ 100000)
    (hl : ∀ t ∈ l, t.1 < 18446744073709551616 ∧ t.2 < 18446744073709551616) (hs : s.1 < 18446744073709551616 ∧ s.2 < 18446744073709551616) :
    Calls Tryz.prog 185 #[v, ivV s] w fun e w' => (∃ v', e = .returned v' ∧ w'.ownsRow w0.heap.size 73 2 v' (putL l s).length (ivC (putL l s))) ∧ Below w0.heap.size w0 w' := by
  have hln : l.length = n := by have := hown.1; rw [ivC_length] at this; omega
  rcases nil_or_snoc l with rfl | ⟨l, t, rfl⟩
  · obtain rfl : n = 0 := by simpa using hln.symm
    obtain ⟨a, cap, rfl, -⟩ := ivs_own hown (by simp)
    exact refPut_nil a cap s w0 w hb hown
  · rw [List.length_append, List.length_singleton] at hln
    obtain ⟨g, cap, rfl, -⟩ := hown.form (by omega)
    rw [putL_snoc]
    by_cases h : t.2 + 1 = s.1
    · rw [if_pos h]
      refine (refPut_touch g n l.length cap l t s w0 w hb hown (by omega) hn (hl t (by simp)) hs (relR_one.2 h)).mono ?_
      rintro e w' ⟨⟨v', h1, h2⟩, h3⟩
      exact ⟨⟨v', h1, by rw [List.length_append, List.length_singleton, hln]; exact h2⟩, h3⟩
    · rw [if_neg h]
      refine (refPut_apart g n l.length cap l t s w0 w hb hown (by omega) hn (hl t (by simp)) hs (fun e => h (relR_one.1 e))).mono ?_
      rintro e w' ⟨⟨v', h1, h2⟩, h3⟩
      exact ⟨⟨v', h1, by rw [List.length_append, List.length_append, List.length_singleton, List.length_singleton, hln]; exact h2⟩, h3⟩

end Go.Proofs.YtkkdlgcfcbaibaaGreatDoor
end
