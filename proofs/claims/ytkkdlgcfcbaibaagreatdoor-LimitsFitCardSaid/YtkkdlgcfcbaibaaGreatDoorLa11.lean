/- Walks and laws, joined: La11. -/
import Derived.Test.YtkkdlgcfcbaibaaGreatDoorLa10
import Derived.Test.YtkkdlgcfcbaibaaGreatDoorLa05
import Derived.Test.YtkkdlgcfcbaibaaGreatDoorLa06
set_option linter.unusedVariables false
namespace Go.Proofs.YtkkdlgcfcbaibaaGreatDoor
section
open Go.RowKit Go.Shelf
def nthE (v : Vec) (i : Nat) : Ent := v.getD i (0, 0, [])
theorem nthE_get {v : Vec} {i : Nat} (h : i < v.length) : nthE v i = v[i] := by simp [nthE, h]
theorem nthE_mem {v : Vec} {i : Nat} (h : i < v.length) : nthE v i ∈ v := by rw [nthE_get h]; exact List.getElem_mem h
structure Ents (w : World) (a : Option Addr) (n cap : Nat) (v : Vec) : Prop where
 len : v.length = n
 lt : LtV v
 room : n ≤ cap
 most : cap ≤ 9223372036854775807
 nilc : a = none → cap = 0
 cells : 0 < n → ∃ b o, a = some ⟨b, o, none⟩ ∧ ∀ i, i < n → w.cell? ⟨b, o + i * 3, none⟩ = some (.int .u64 (((nthE v i).1 : Nat) : Int)) ∧ w.cell? ⟨b, o + i * 3 + 1, none⟩ = some (.int .u64 (((nthE v i).2.1 : Nat) : Int)) ∧
  ∃ x k c, w.cell? ⟨b, o + i * 3 + 2, none⟩ = some (.slice x k c) ∧ Ivs w x k c (nthE v i).2.2
theorem Ents.below {w w' : World} {a : Option Addr} {n cap : Nat} {v : Vec} (h : Ents w a n cap v) (hb : Below w.heap.size w w') : Ents w' a n cap v := by
 refine ⟨h.len, h.lt, h.room, h.most, h.nilc, fun hn => ?_⟩
 obtain ⟨b, o, ha, hc⟩ := h.cells hn
 refine ⟨b, o, ha, fun i hi => ?_⟩
 obtain ⟨h1, h2, x, k, c, h3, h4⟩ := hc i hi
 exact ⟨(hb.cell (p := ⟨b, o + i * 3, none⟩) (cell_lt h1)).trans h1, (hb.cell (p := ⟨b, o + i * 3 + 1, none⟩) (cell_lt h2)).trans h2, x, k, c, (hb.cell (p := ⟨b, o + i * 3 + 2, none⟩) (cell_lt h3)).trans h3, h4.below hb⟩
theorem ents_nil (w : World) : Ents w none 0 0 [] := ⟨rfl, by simp, by omega, by omega, fun _ => rfl, fun h => by omega⟩
def RowAt (w : World) (base : Nat) (T : TypeId) (b : Nat) : Prop := b < base ∨ ∃ C fr, w.heap[b]? = some (.cells C T fr)
structure Steady (base : Nat) (P : TypeId → Prop) (w w' : World) : Prop where
 size : w.heap.size ≤ w'.heap.size
 row : ∀ k, k < w.heap.size → (k < base ∨ ∃ C T fr, P T ∧ w.heap[k]? = some (.cells C T fr)) → w'.heap[k]? = w.heap[k]?
theorem Steady.of_below {base : Nat} {P : TypeId → Prop} {w w' : World} (h : Below w.heap.size w w') : Steady base P w w' := ⟨h.size, fun k hk _ => h.block k hk⟩
theorem Steady.trans {base : Nat} {P : TypeId → Prop} {a b c : World} (h : Steady base P a b) (k : Steady base P b c) : Steady base P a c :=
 ⟨Nat.le_trans h.size k.size, fun i hi hp => (k.row i (Nat.lt_of_lt_of_le hi h.size) (hp.imp id fun ⟨C, T, fr, hT, hr⟩ => ⟨C, T, fr, hT, (h.row i hi (.inr ⟨C, T, fr, hT, hr⟩)).trans hr⟩)).trans (h.row i hi hp)⟩
theorem Steady.lower {base base' : Nat} {P : TypeId → Prop} {w w' : World} (h : Steady base P w w') (hb : base' ≤ base) : Steady base' P w w' := ⟨h.size, fun k hk hp => h.row k hk (hp.imp (fun h => by omega) id)⟩
theorem Steady.grown {base sz n : Nat} {P : TypeId → Prop} {w w' : World} {e : TypeId} {v : Value} {xs : List Value} (ho : w.ownsRow base e sz v n xs) (hg : w.grownBy w' v.ownBlock) (he : ¬ P e) : Steady base P w w' := by
 refine ⟨hg.size, fun k hk hp => hg.block k hk fun hr => ?_⟩
 rcases ho.2 with ⟨rfl, _⟩ | ⟨g, cap, cur, rfl, hb, hh, _⟩
 · simp [Value.ownBlock] at hr
 · simp [Value.ownBlock] at hr
   subst hr
   rcases hp with h | ⟨C, T, fr, hT, h⟩
   · omega
   · rw [hh] at h; cases h; exact he hT
theorem Steady.setCell {base : Nat} {P : TypeId → Prop} {w : World} {a : Addr} {u : Value} {e : TypeId} {C : Array Value} {fr : Nat × Nat} (h : w.heap[a.block]? = some (.cells C e fr)) (hb : base ≤ a.block) (he : ¬ P e) : Steady base P w (w.setCell a u) := by
 refine ⟨by simp [World.setCell], fun k hk hp => Below.heap_setCell _ _ _ _ fun hr => ?_⟩
 subst hr
 rcases hp with h' | ⟨C', T, fr', hT, h'⟩
 · omega
 · rw [h] at h'; cases h'; exact he hT
def isIvT (T : TypeId) : Prop := T = 73
def isEnT (T : TypeId) : Prop := T = 73 ∨ T = 71
theorem rowAt_steady {w w' : World} {base : Nat} {T : TypeId} {P : TypeId → Prop} {b : Nat} (h : RowAt w base T b) (hb : b < w.heap.size) (hs : Steady base P w w') (hT : P T) : RowAt w' base T b ∧ w'.heap[b]? = w.heap[b]? := by
 rcases h with h | ⟨C, fr, h⟩
 · exact ⟨.inl h, hs.row b hb (.inl h)⟩
 · have := hs.row b hb (.inr ⟨C, T, fr, hT, h⟩)
   exact ⟨.inr ⟨C, fr, this.trans h⟩, this⟩
structure IvsT (w : World) (base : Nat) (a : Option Addr) (n c : Nat) (l : List Iv) : Prop where
 ivs : Ivs w a n c l
 row : 0 < n → ∀ p, a = some p → RowAt w base 73 p.block
theorem IvsT.steady {w w' : World} {base : Nat} {P : TypeId → Prop} {a : Option Addr} {n c : Nat} {l : List Iv} (h : IvsT w base a n c l) (hs : Steady base P w w') (hP : P 73) : IvsT w' base a n c l := by
 refine ⟨⟨h.ivs.len, h.ivs.lt, h.ivs.room, h.ivs.most, h.ivs.nilc, fun hn => ?_⟩, fun hn p hp => ?_⟩
 · obtain ⟨b, o, ha, hc⟩ := h.ivs.cells hn
   have hb := cell_lt (hc 0 hn).1
   obtain ⟨-, hrow⟩ := rowAt_steady (h.row hn _ ha) hb hs hP
   exact ⟨b, o, ha, fun i hi => ⟨(World.cell?_of_block (a := ⟨b, o + i * 2, none⟩) hrow).trans (hc i hi).1, (World.cell?_of_block (a := ⟨b, o + i * 2 + 1, none⟩) hrow).trans (hc i hi).2⟩⟩
 · obtain ⟨b, o, ha, hc⟩ := h.ivs.cells hn
   rw [ha] at hp
   cases hp
   exact (rowAt_steady (h.row hn _ ha) (cell_lt (hc 0 hn).1) hs hP).1
theorem IvsT.lower {w : World} {base base' : Nat} {a : Option Addr} {n c : Nat} {l : List Iv} (h : IvsT w base a n c l) (hr : ∀ b, RowAt w base 73 b → RowAt w base' 73 b) : IvsT w base' a n c l := ⟨h.ivs, fun hn p hp => hr _ (h.row hn p hp)⟩
theorem ivsT_old {w : World} {a : Option Addr} {n c : Nat} {l : List Iv} (h : Ivs w a n c l) : IvsT w w.heap.size a n c l := by
 refine ⟨h, fun hn p hp => .inl ?_⟩
 obtain ⟨b, o, ha, hc⟩ := h.cells hn
 rw [ha] at hp
 cases hp
 exact cell_lt (hc 0 hn).1
theorem ivsT_own {w : World} {base base' n : Nat} {v : Value} {l : List Iv} (h : w.ownsRow base 73 2 v n (ivC l)) (hl : Lt64 l) : ∃ a c, v = .slice a n c ∧ IvsT w base' a n c l := by
 obtain ⟨a, c, rfl, hI⟩ := ivs_own h hl
 refine ⟨a, c, rfl, hI, fun hn p hp => ?_⟩
 rcases h.2 with ⟨h', _⟩ | ⟨g, cap, cur, h', _, hh, _⟩
 · cases h'; cases hp
 · simp only [Value.slice.injEq] at h'
   obtain ⟨rfl, _⟩ := h'
   cases hp
   exact .inr ⟨_, _, hh⟩
def entC (v : Vec) (ss : List Value) : List Value := (v.zip ss).flatMap fun p => [.int .u64 ((p.1.1 : Nat) : Int), .int .u64 ((p.1.2.1 : Nat) : Int), p.2]
theorem entC_append {v u : Vec} {ss ts : List Value} (h : ss.length = v.length) : entC (v ++ u) (ss ++ ts) = entC v ss ++ entC u ts := by
 unfold entC
 rw [List.zip_append h.symm, List.flatMap_append]
theorem entC_get : ∀ {v : Vec} {ss : List Value} {i : Nat}, ss.length = v.length → i < v.length →
 (entC v ss)[i * 3]? = some (.int .u64 (((nthE v i).1 : Nat) : Int)) ∧ (entC v ss)[i * 3 + 1]? = some (.int .u64 (((nthE v i).2.1 : Nat) : Int)) ∧ (entC v ss)[i * 3 + 2]? = ss[i]?
 | [], _, i, _, h => by simp at h
 | e :: v, [], i, h, _ => by simp at h
 | e :: v, s :: ss, 0, _, _ => ⟨rfl, rfl, rfl⟩
 | e :: v, s :: ss, i + 1, h, hi => by
   have := entC_get (v := v) (ss := ss) (i := i) (by simpa using h) (by simpa using hi)
   have e1 : entC (e :: v) (s :: ss) = .int .u64 ((e.1 : Nat) : Int) :: .int .u64 ((e.2.1 : Nat) : Int) :: s :: entC v ss := rfl
   rw [e1, show (i + 1) * 3 = i * 3 + 1 + 1 + 1 by omega, show i * 3 + 1 + 1 + 1 + 1 = (i * 3 + 1) + 1 + 1 + 1 by omega, show i * 3 + 1 + 1 + 1 + 2 = (i * 3 + 2) + 1 + 1 + 1 by omega]
   simpa [nthE] using this
def HolesT (w : World) (base : Nat) (v : Vec) (ss : List Value) : Prop := ss.length = v.length ∧ ∀ i, i < v.length → ∃ a n c, ss[i]? = some (.slice a n c) ∧ IvsT w base a n c (nthE v i).2.2
theorem HolesT.steady {w w' : World} {base : Nat} {P : TypeId → Prop} {v : Vec} {ss : List Value} (h : HolesT w base v ss) (hs : Steady base P w w') (hP : P 73) : HolesT w' base v ss :=
 ⟨h.1, fun i hi => let ⟨a, n, c, h1, h2⟩ := h.2 i hi; ⟨a, n, c, h1, h2.steady hs hP⟩⟩
theorem holesT_nil (w : World) (base : Nat) : HolesT w base [] [] := ⟨rfl, fun i hi => by simp at hi⟩
theorem HolesT.snoc {w : World} {base : Nat} {v : Vec} {ss : List Value} {e : Ent} {a : Option Addr} {n c : Nat} (h : HolesT w base v ss) (hI : IvsT w base a n c e.2.2) : HolesT w base (v ++ [e]) (ss ++ [.slice a n c]) := by
 refine ⟨by simp [h.1], fun i hi => ?_⟩
 by_cases hv : i < v.length
 · obtain ⟨x, k, d, h1, h2⟩ := h.2 i hv
   refine ⟨x, k, d, by rw [List.getElem?_append_left (by rw [h.1]; exact hv)]; exact h1, ?_⟩
   have : nthE (v ++ [e]) i = nthE v i := by rw [nthE_get hi, nthE_get hv, List.getElem_append_left hv]
   rw [this]; exact h2
 · have hiv : i = v.length := by simp at hi; omega
   subst hiv
   refine ⟨a, n, c, by rw [List.getElem?_append_right (by rw [h.1]; omega), h.1]; simp, ?_⟩
   have : nthE (v ++ [e]) v.length = e := by simp [nthE]
   rw [this]; exact hI
def OwnV (w : World) (base : Nat) (x : Value) (v : Vec) : Prop := ∃ ss, w.ownsRow base 71 3 x v.length (entC v ss) ∧ HolesT w 0 v ss
theorem ownV_nil (w : World) (base : Nat) : OwnV w base (.slice none 0 0) [] := ⟨[], World.ownsRow_nil .., holesT_nil w 0⟩
theorem OwnV.steady {w w' : World} {base : Nat} {P : TypeId → Prop} {x : Value} {v : Vec} (h : OwnV w base x v) (hs : Steady base P w w') (h1 : P 73) (h2 : P 71) : OwnV w' base x v := by
 obtain ⟨ss, ho, hh⟩ := h
 refine ⟨ss, ⟨ho.1, ?_⟩, hh.steady (hs.lower (Nat.zero_le _)) h1⟩
 rcases ho.2 with h' | ⟨g, cap, cur, hv, hg, hr, rest⟩
 · exact .inl h'
 · exact .inr ⟨g, cap, cur, hv, hg, (hs.row g (Array.getElem?_eq_some_iff.1 hr).1 (.inr ⟨_, _, _, h2, hr⟩)).trans hr, rest⟩
theorem OwnV.below {w w' : World} {base : Nat} {x : Value} {v : Vec} (h : OwnV w base x v) (hb : Below w.heap.size w w') : OwnV w' base x v :=
 h.steady (P := fun _ => True) (.of_below hb) trivial trivial
theorem OwnV.ents {w : World} {base : Nat} {x : Value} {v : Vec} (h : OwnV w base x v) (hl : LtV v) : ∃ a c, x = .slice a v.length c ∧ Ents w a v.length c v := by
 obtain ⟨ss, ho, hs⟩ := h
 have ho2 := ho
 rcases ho.2 with ⟨rfl, h0⟩ | ⟨g, cap, cur, rfl, hg, hh, hnc, hcm, _⟩
 · rw [h0]
   have : v = [] := List.length_eq_zero_iff.1 h0
   subst this
   exact ⟨none, 0, rfl, ents_nil w⟩
 · refine ⟨_, _, rfl, rfl, hl, hnc, by unfold maxLen at hcm; omega, (by intro h; cases h), fun hn => ⟨g, 0, rfl, fun i hi => ?_⟩⟩
   obtain ⟨e1, e2, e3⟩ := entC_get hs.1 hi
   obtain ⟨a, n, c, h1, h2⟩ := hs.2 i hi
   rw [h1] at e3
   have c1 := ho2.cells (g := g) rfl _ _ e1
   have c2 := ho2.cells (g := g) rfl _ _ e2
   have c3 := ho2.cells (g := g) rfl _ _ e3
   rw [add_at] at c1 c2 c3
   exact ⟨c1, by rw [Nat.add_assoc]; exact c2, a, n, c, by rw [Nat.add_assoc]; exact c3, h2.ivs⟩
theorem OwnV.lower {w : World} {base base' : Nat} {x : Value} {v : Vec} (h : OwnV w base x v) (hb : base' ≤ base) : OwnV w base' x v := by
 obtain ⟨ss, ho, hh⟩ := h
 exact ⟨ss, own_mono ho hb, hh⟩
theorem Tryz.info_ent : (Tryz.prog.info? 71).map (fun i => (i.zero, i.size, i.bytes)) = some (some (.agg #[.int .u64 0, .int .u64 0, .slice none 0 0]), 3, 40) := by kernel_rfl
theorem run_append_ent {w : World} (base : Nat) (x : Value) (v : Vec) (e : Ent) (hown : OwnV w base x v) (a : Option Addr) (n c : Nat) (hI : IvsT w 0 a n c e.2.2) (A : Option Addr) (cA : Nat)
 (hr : Rd w 3 A 1 [.int .u64 ((e.1 : Nat) : Int), .int .u64 ((e.2.1 : Nat) : Int), .slice a n c]) (hb : v.length + 1 ≤ 1000000) (hbase : base ≤ w.heap.size) :
 ∃ x' w', (Builtin.append_ #[37, 37] 37 #[x, .slice A 1 cA]).run Tryz.prog w = .ok x' w' ∧ OwnV w' base x' (v ++ [e]) ∧ w.grownBy w' x.ownBlock ∧ Steady base isIvT w w' := by
 obtain ⟨ss, ho, hh⟩ := hown
 obtain ⟨x', w', h1, h2, h3⟩ := run_append_rd base _ _ _ _ 3 40 Tryz.underlying37 Tryz.info_ent rfl (by omega) x v.length _ ho A 1 cA _ hr (by simp [Value.oneCell']) (by unfold maxLen; omega) (by omega) hbase
 have hs : Steady base isIvT w w' := .grown ho h3 (by intro h; cases h)
 refine ⟨x', w', h1, ⟨ss ++ [.slice a n c], ?_, (hh.steady (hs.lower (Nat.zero_le _)) rfl).snoc (hI.steady (hs.lower (Nat.zero_le _)) rfl)⟩, h3, hs⟩
 rw [entC_append hh.1, List.length_append]
 exact h2
end
section
open Go.RowKit
theorem cells_cell {W : World} {g i : Nat} {C : Array Value} {T : TypeId} {fr : Nat × Nat} {v : Value} (h : W.heap[g]? = some (.cells C T fr)) (hv : C[i]? = some v) : W.cell? ⟨g, i, none⟩ = some v := by
 simp only [World.cell?, h]
 exact hv
def gOf (op : Nat) : Bool → Bool → Bool := if op = 0 then gOr else if op = 1 then gAnd else gSub
theorem gOf_zero (op : Nat) : gOf op false false = false := by
 unfold gOf
 split
 · rfl
 · split <;> rfl
theorem refTake_any (x y : Bool) (op : Nat) (hop : op < 3) (w : World) : Calls Tryz.prog 184 #[.bool x, .bool y, .int .i64 op] w fun e w' => e = .returned (.bool (gOf op x y)) ∧ Below w.heap.size w w' := by
 obtain rfl | rfl | rfl : op = 0 ∨ op = 1 ∨ op = 2 := by omega
 all_goals
  cases x <;> cases y <;>
  (go_enter Tryz.func184, Tryz.ntmps184
   go_wp2
   all_goals go_ret
   all_goals exact ⟨rfl, by first | exact Below.refl _ _ | exact below_drewN' (Below.refl _ _) _⟩)
set_option maxRecDepth 20000 in
set_option maxHeartbeats 4000000 in
theorem refDo_any (aa ab : Option Addr) (na ca nb cb op : Nat) (a b : List Iv) (w : World) (hIa : Ivs w aa na ca a) (hIb : Ivs w ab nb cb b) (hop : op < 3) (hn : 2 * a.length + 2 * b.length + 1 ≤ 100000) :
 Calls Tryz.prog 150 #[.slice aa na ca, .slice ab nb cb, .int .i64 op] w fun e w' => OwnIv w.heap.size (opL (gOf op) a b) e w' ∧ Below w.heap.size w w' := by
 have HIa := Lib.hid hIa; have HIb := Lib.hid hIb; have Hop := Lib.hid hop
 have Hla := Lib.hid (show Lt64 a from hIa.lt); have Hlb := Lib.hid (show Lt64 b from hIb.lt)
 have hA : Below w.heap.size w (w.alloc (.cells #[.slice aa na ca, .slice ab nb cb] 28)) := (Below.refl _ _).alloc (Nat.le_refl _) _
 have hR : Rls (w.alloc (.cells #[.slice aa na ca, .slice ab nb cb] 28)) (some ⟨w.heap.size, 0, none⟩) 2 2 [a, b] := by
  have hrow : (w.alloc (.cells #[.slice aa na ca, .slice ab nb cb] 28)).heap[w.heap.size]? = some (.cells #[.slice aa na ca, .slice ab nb cb] 28) := row_new rfl
  refine ⟨rfl, Nat.le_refl _, by omega, (by intro h; cases h), fun _ => ⟨w.heap.size, 0, rfl, fun i hi => ?_⟩⟩
  obtain rfl | rfl : i = 0 ∨ i = 1 := by omega
  · refine ⟨aa, ca, ?_, ?_⟩
    · rw [show ([a, b].getD 0 []).length = na from hIa.len]; exact cells_cell (i := 0) hrow rfl
    · rw [show ([a, b].getD 0 []).length = na from hIa.len]; exact hIa.below hA
  · refine ⟨ab, cb, ?_, ?_⟩
    · rw [show ([a, b].getD 1 []).length = nb from hIb.len]; exact cells_cell (i := 1) hrow rfl
    · rw [show ([a, b].getD 1 []).length = nb from hIb.len]; exact hIb.below hA
 have hal : (allL [a, b]).length ≤ 100000 := by
  have := bnds_len a
  have := bnds_len b
  simp [allL]
  omega
 have hS := Lib.hid (refStarts_any (some ⟨w.heap.size, 0, none⟩) 2 2 [a, b] _ hR (by omega) hal)
 have Hal := Lib.hid hal
 have HA := Lib.hid hA
 clear hR hal hIa hIb hA hop hn
 go_enter Tryz.func150, Tryz.ntmps150
 go_wp2_with fail
 refine hS.out.mono ?_
 rintro e w1 ⟨⟨v, L, rfl, ho, hAs, hmem⟩, hb1⟩
 have Hb1 := Lib.hid (HA.out.trans (hb1.mono HA.out.size)); clear hb1
 have hLlt : ∀ x ∈ L, x < 18446744073709551616 := fun x hx => by
  rcases (allL_two a b x).1 ((hmem x).1 hx) with rfl | h | h
  · omega
  · exact bnds_lt Hla.out x h
  · exact bnds_lt Hlb.out x h
 have hLen : L.length ≤ 100000 := Nat.le_trans (asc_len hAs fun y hy => (hmem y).1 hy) Hal.out
 obtain ⟨aS, cS, rfl, hU⟩ := u64s_own ho hLlt
 have HU := Lib.hid hU
 obtain ⟨f, hf⟩ : ∃ f : Nat → Bool, f = fun x => gOf op (mem a x) (mem b x) := ⟨_, rfl⟩
 have hLs : L = sortA (allL [a, b]) := sortA_eq hAs hmem
 have hdo : takeL (pcsL f L) [] = opL (gOf op) a b := by rw [hf, hLs]; rfl
 have hfx : ∀ x, f x = gOf op (mem a x) (mem b x) := fun x => by rw [hf]
 have Hdo := Lib.hid hdo; have Hfx := Lib.hid hfx
 have HAs := Lib.hid hAs
 have HLl := Lib.hid hLlt
 have HIa1 := Lib.hid (HIa.out.below Hb1.out); have HIb1 := Lib.hid (HIb.out.below Hb1.out)
 have Hz1 := Lib.hid Hb1.out.size
 obtain ⟨M, hM⟩ : ∃ M, M = L.length := ⟨_, rfl⟩
 rw [← hM] at HU hLen ⊢
 have HM := Lib.hid hM
 clear hM hdo hAs hLlt hU ho hmem hS HA Hal hf hLs hfx
 go_wp2
 go_loopw [8, 9] (fun v i wr => ∃ k : Nat, k ≤ M ∧ i = .int .i64 k ∧ Below w1.heap.size w1 wr ∧ Hid (wr.ownsRow w1.heap.size 73 2 v (takeL ((pcsL f L).take k) []).length (ivC (takeL ((pcsL f L).take k) [])))) (fun _ i _ => M - (intOf i).toNat)
 case atStart => exact ⟨0, by omega, rfl, Below.refl _ _, World.ownsRow_nil _ _ _ _⟩
 case round =>
  obtain ⟨k, hk, rfl, hb, ho⟩ := hrel
  have Hb := Lib.hid hb; clear hb
  by_cases hkM : k < M
  · have Hst := Lib.hid (takeL_step f (L := L) (k := k) (by rw [← HM.out]; exact hkM))
    have Hpl := Lib.hid (pieceOf_lt (L := L) (k := k) (by rw [← HM.out]; exact hkM) HLl.out)
    have Htl := Lib.hid (takeL_lt (out := []) (pcsL_lt f HLl.out k) (by simp))
    have Htn := Lib.hid (show (takeL ((pcsL f L).take k) []).length ≤ 100000 from by
     have h1 := takeL_len ((pcsL f L).take k) []
     have h2 : ((pcsL f L).take k).length ≤ M := by rw [List.length_take, pcsL_len, ← HM.out]; omega
     simp only [List.length_nil, Nat.zero_add] at h1
     omega)
    have hP := Lib.hid (fun w' (h : Below w1.heap.size w1 w') => refPiece_any aS M cS k L w' (HU.out.below h) hkM (by omega) (fun h2 => by
     have := asc_get HAs.out (i := k) (j := k + 1) (by omega) (by rw [← HM.out]; exact h2)
     omega))
    have hcS := HU.out.cells (by omega)
    obtain ⟨bS, oS, rfl, hcS⟩ := hcS
    have hc := hcS k hkM
    have Hc := Lib.hid (fun w' (h : Below w1.heap.size w1 w') => (h.cell (p := ⟨bS, oS + k, none⟩) (cell_lt hc)).trans hc)
    clear hcS hc
    generalize htk : takeL ((pcsL f L).take k) [] = T at *
    have HT := Lib.hid htk
    clear htk
    have hfk := Hfx.out (nth L k)
    have Hfk := Lib.hid hfk; clear hfk
    generalize pieceOf L k = p at *
    generalize nth L k = x at *
    have hT := Lib.hid (fun w => refTake_any (mem a x) (mem b x) op Hop.out w)
    rw [← Hfk.out] at hT
    generalize f x = fx at *
    have hki : (k : Int) < (M : Int) := by omega
    have hk0 : (0 : Int) ≤ k := by omega
    have hcS2 := HU.out.room
    go_wp2_with fail
    go_cut [33] (fun v wc => v = .bool fx ∧ Hid (Below wr.heap.size wr wc))
    case first =>
     refine wp_region_below (by kernel_rfl) (by kernel_rfl) ?_
     iterate 5 (go_big_quiet_step ((intro hw; first
      | rfl
      | (have q0 := Hc.out _ (Hb.out.trans (hw.mono Hb.out.size))
         go_simp
         first | rfl | exact ⟨rfl, hw⟩ | (trace_state; fail)))))
     go_big_quiet_step ((intro hw; go_at_call 45; exact keep_below hw (refHas_any aa na ca x a _ (HIa1.out.below (Hb.out.trans (hw.mono Hb.out.size))))))
     iterate 5 (go_big_quiet_step ((intro hw; first
      | rfl
      | (have q0 := Hc.out _ (Hb.out.trans (hw.mono Hb.out.size))
         go_simp
         first | rfl | exact ⟨rfl, hw⟩ | (trace_state; fail)))))
     go_big_quiet_step ((intro hw; go_at_call 45; exact keep_below hw (refHas_any ab nb cb x b _ (HIb1.out.below (Hb.out.trans (hw.mono Hb.out.size))))))
     (go_big_quiet_step ((intro hw; first
       | rfl
       | (have q0 := Hc.out _ (Hb.out.trans (hw.mono Hb.out.size))
          go_simp
          first | rfl | exact ⟨rfl, hw⟩ | (trace_state; fail)))))
     go_big_quiet_step ((intro hw; go_at_call 184; exact keep_below hw (hT.out _)))
     refine wpQuiet_nil ?_
     intro w3 hb3
     go_wp2
     go_meet
     exact ⟨rfl, hb3⟩
    case rest =>
     obtain ⟨rfl, hb2⟩ := hcut
     have Hb2 := Lib.hid (Hb.out.trans (hb2.out.mono Hb.out.size))
     have Ho2 := Lib.hid (own_below ho.out hb2.out)
     clear hb2
     cases fx with
     | true =>
      rw [if_pos rfl] at Hst
      go_wp2_with fail
      refine (hP.out _ Hb2.out).mono ?_
      rintro e w3 ⟨rfl, hb3⟩
      have Hb3 := Lib.hid (Hb2.out.trans (hb3.mono Hb2.out.size))
      have Ho3 := Lib.hid (own_below Ho2.out hb3)
      clear hb3
      go_wp2_with fail
      refine (refPut_any _ _ _ p w1 _ Hb3.out Ho3.out Htn.out Htl.out Hpl.out).mono ?_
      rintro e w4 ⟨⟨v', rfl, ho4⟩, hb4⟩
      have Ho4 := Lib.hid ho4
      have Hb4 := Lib.hid hb4
      clear ho4 hb4
      go_wp2
      go_roundw
      case rel => exact ⟨k + 1, by omega, by go_num, Hb4.out, by rw [Hst.out]; exact Ho4.out⟩
      case measure => simp [intOf]; omega
     | false =>
      rw [if_neg (by simp)] at Hst
      go_wp2
      go_roundw
      case rel => exact ⟨k + 1, by omega, by go_num, Hb2.out, by rw [Hst.out]; exact Ho2.out⟩
      case measure => simp [intOf]; omega
  · obtain rfl : k = M := by omega
    have Ho := ho
    have Hall := Lib.hid (show takeL ((pcsL f L).take k) [] = opL (gOf op) a b from by rw [List.take_of_length_le (by rw [pcsL_len, ← HM.out]; omega)]; exact Hdo.out)
    rw [Hall.out] at Ho
    clear ho
    go_wp2
    go_ret
    exact ⟨⟨_, rfl, own_mono Ho.out Hz1.out⟩, Hb1.out.trans (Hb.out.mono Hz1.out)⟩
end
section
def nthF (k : Kno) (i : Nat) : Frg := k.getD i ([], [])
theorem nthF_get {k : Kno} {i : Nat} (h : i < k.length) : nthF k i = k[i] := by simp [nthF, h]
theorem nthF_mem {k : Kno} {i : Nat} (h : i < k.length) : nthF k i ∈ k := by rw [nthF_get h]; exact List.getElem_mem h
def membersK (k : Kno) (x : Nat) : List Nat := (List.range k.length).filter fun i => mem (nthF k i).1 x
theorem members_mem {k : Kno} {x i : Nat} : i ∈ membersK k x ↔ i < k.length ∧ mem (nthF k i).1 x = true := by
 unfold membersK
 rw [List.mem_filter, List.mem_range]
theorem members_congr {k : Kno} {x y : Nat} (h : ∀ f ∈ k, mem f.1 x = mem f.1 y) : membersK k x = membersK k y := by
 unfold membersK
 refine List.filter_congr fun i hi => ?_
 exact h _ (nthF_mem (List.mem_range.1 hi))
theorem members_eq {k : Kno} {x y : Nat} (h : membersK k x = membersK k y) : ∀ f ∈ k, mem f.1 x = mem f.1 y := by
 intro f hf
 obtain ⟨i, hi, rfl⟩ := List.getElem_of_mem hf
 rw [← nthF_get hi, Bool.eq_iff_iff]
 have e : i ∈ membersK k x ↔ i ∈ membersK k y := by rw [h]
 rw [members_mem, members_mem] at e
 exact ⟨fun hx => (e.1 ⟨hi, hx⟩).2, fun hx => (e.2 ⟨hi, hx⟩).2⟩
theorem members_none {k : Kno} {x : Nat} : membersK k x = [] ↔ ∀ f ∈ k, mem f.1 x = false := by
 constructor
 · intro h f hf
   obtain ⟨i, hi, rfl⟩ := List.getElem_of_mem hf
   rw [← nthF_get hi, ← Bool.not_eq_true]
   intro hx
   have : i ∈ membersK k x := members_mem.2 ⟨hi, hx⟩
   rw [h] at this; cases this
 · intro h
   rw [List.eq_nil_iff_forall_not_mem]
   intro i hi
   obtain ⟨h1, h2⟩ := members_mem.1 hi
   rw [h _ (nthF_mem h1)] at h2; cases h2
def allK (k : Kno) : List Nat := sortA (allL (k.map (·.1)))
def startsK (k : Kno) : List Nat := (allK k).filter fun x => decide (x = 0) || decide (membersK k (x - 1) ≠ membersK k x)
theorem allK_asc (k : Kno) : Asc (allK k) := sortA_asc _
theorem allK_mem {k : Kno} {y : Nat} : y ∈ allK k ↔ y = 0 ∨ ∃ f ∈ k, y ∈ bnds f.1 := by
 unfold allK
 rw [sortA_mem]
 simp [allL]
theorem allK_lt {k : Kno} (hk : LtK k) : ∀ y ∈ allK k, y < 18446744073709551616 := by
 intro y hy
 rcases allK_mem.1 hy with rfl | ⟨f, hf, h⟩
 · omega
 · exact bnds_lt (hk f hf).items y h
theorem asc_filter {l : List Nat} (p : Nat → Bool) (h : Asc l) : Asc (l.filter p) := by
 induction l with
 | nil => trivial
 | cons a l ih =>
  rw [List.filter_cons]
  split
  · exact asc_cons (fun x hx => h.lower x (List.mem_filter.1 hx).1) (ih h.tail)
  · exact ih h.tail
theorem startsK_asc (k : Kno) : Asc (startsK k) := asc_filter _ (allK_asc k)
theorem startsK_mem {k : Kno} {y : Nat} : y ∈ startsK k ↔ y ∈ allK k ∧ (y = 0 ∨ membersK k (y - 1) ≠ membersK k y) := by
 unfold startsK
 rw [List.mem_filter, Bool.or_eq_true, decide_eq_true_iff, decide_eq_true_iff]
theorem startsK_zero (k : Kno) : 0 ∈ startsK k := startsK_mem.2 ⟨allK_mem.2 (.inl rfl), .inl rfl⟩
theorem startsK_lt {k : Kno} (hk : LtK k) : ∀ y ∈ startsK k, y < 18446744073709551616 := fun y hy => allK_lt hk y (startsK_mem.1 hy).1
theorem members_step {k : Kno} (hk : LtK k) {x : Nat} (h0 : 0 < x) (hx : x < 18446744073709551616) (h : x ∉ startsK k) : membersK k x = membersK k (x - 1) := by
 by_cases ha : x ∈ allK k
 · refine Decidable.by_contra fun hne => h (startsK_mem.2 ⟨ha, .inr fun e => hne e.symm⟩)
 · refine members_congr fun f hf => mem_const (hk f hf).items (by omega) hx fun y hy hyx => ?_
   have : y = x := by omega
   subst this
   exact ha (allK_mem.2 (.inr ⟨f, hf, hy⟩))
theorem members_const {k : Kno} (hk : LtK k) {c : Nat} : ∀ (x : Nat), c ≤ x → x < 18446744073709551616 → (∀ y ∈ startsK k, ¬ (c < y ∧ y ≤ x)) → membersK k x = membersK k c
 | 0, hc, _, _ => by have : c = 0 := by omega
                     subst this; rfl
 | x + 1, hc, hx, h => by
   by_cases e : c = x + 1
   · subst e; rfl
   · rw [members_step hk (by omega) hx (fun hm => h _ hm ⟨by omega, Nat.le_refl _⟩), Nat.add_sub_cancel]
     exact members_const hk x (by omega) (by omega) fun y hy hyx => h y hy ⟨hyx.1, by omega⟩
def inK (k : Kno) (x : Nat) : Bool := decide (membersK k x ≠ [])
def piecesK (k : Kno) : List Iv := (pcsL (inK k) (startsK k)).filterMap fun p => if p.2 = true then some p.1 else none
def refineK (k : Kno) : Kno := (piecesK k).map fun s => ([s], atK k s.1)
theorem pieces_mem {k : Kno} (hk : LtK k) {s : Iv} (hs : s ∈ piecesK k) : s.1 ≤ s.2 ∧ s.2 < 18446744073709551616 ∧ ∀ x, s.1 ≤ x → x ≤ s.2 → membersK k x = membersK k s.1 := by
 obtain ⟨p, hp, he⟩ := List.mem_filterMap.1 hs
 obtain ⟨i, hi, rfl⟩ := List.getElem_of_mem hp
 rw [pcsL_len] at hi
 have e := pcsL_get (inK k) hi
 rw [List.getElem?_eq_getElem (by rw [pcsL_len]; exact hi)] at e
 have e' := Option.some.inj e
 rw [e'] at he
 have hA := startsK_asc k
 have hL := startsK_lt hk
 have h0 := hL _ (nth_mem hi)
 by_cases h1 : i + 1 < (startsK k).length
 · rw [if_pos h1] at he
   by_cases hin : inK k (nth (startsK k) i) = true
   · have he3 := Option.some.inj ((if_pos hin).symm.trans he)
     clear he
     subst he3
     have h2 := asc_get hA (i := i) (j := i + 1) (by omega) h1
     have h3 := hL _ (nth_mem h1)
     refine ⟨by simp only; omega, by simp only; omega, fun x hx1 hx2 => ?_⟩
     simp only at hx1 hx2 ⊢
     refine members_const hk x hx1 (by omega) fun y hy hyx => ?_
     obtain ⟨j, hj, rfl⟩ := mem_nth hy
     rcases Nat.lt_trichotomy j i with h | h | h
     · have := asc_get hA h hi; omega
     · subst h; omega
     · by_cases ej : j = i + 1
       · subst ej; omega
       · have := asc_get hA (i := i + 1) (j := j) (by omega) hj; omega
   · exact absurd ((if_neg hin).symm.trans he) (by simp)
 · rw [if_neg h1] at he
   by_cases hin : inK k (nth (startsK k) i) = true
   · have he3 := Option.some.inj ((if_pos hin).symm.trans he)
     clear he
     subst he3
     refine ⟨by simp only; omega, by simp only; omega, fun x hx1 hx2 => ?_⟩
     simp only at hx1 hx2 ⊢
     refine members_const hk x hx1 (by omega) fun y hy hyx => ?_
     obtain ⟨j, hj, rfl⟩ := mem_nth hy
     rcases Nat.lt_trichotomy j i with h | h | h
     · have := asc_get hA h hi; omega
     · subst h; omega
     · omega
   · exact absurd ((if_neg hin).symm.trans he) (by simp)
theorem pcs_sorted (f : Nat → Bool) : ∀ {l : List Nat}, Asc l → (l.Pairwise (· < ·)) → (pcsL f l).Pairwise fun p q => p.1.2 < q.1.1
 | [], _, _ => List.Pairwise.nil
 | [a], _, _ => by simp [pcsL]
 | a :: b :: r, h, hp => by
   rw [pcsL]
   obtain ⟨p1, p2⟩ := List.pairwise_cons.1 hp
   refine List.pairwise_cons.2 ⟨fun q hq => ?_, pcs_sorted f h.tail p2⟩
   obtain ⟨i, hi, rfl⟩ := List.getElem_of_mem hq
   rw [pcsL_len] at hi
   have e := pcsL_get f hi
   rw [List.getElem?_eq_getElem (by rw [pcsL_len]; exact hi)] at e
   have e' := Option.some.inj e
   rw [e']
   have hm := nth_mem hi
   have hb : b ≤ nth (b :: r) i := by
    rcases List.mem_cons.1 hm with e | hm
    · omega
    · have := h.tail.lower _ hm; omega
   have hab := p1 b (List.mem_cons_self ..)
   split <;> (simp only; omega)
theorem asc_pw : ∀ {l : List Nat}, Asc l → l.Pairwise (· < ·)
 | [], _ => List.Pairwise.nil
 | a :: l, h => List.pairwise_cons.2 ⟨h.lower, asc_pw h.tail⟩
theorem pieces_sorted (k : Kno) : (piecesK k).Pairwise fun s t => s.2 < t.1 := by
 have h := pcs_sorted (inK k) (startsK_asc k) (asc_pw (startsK_asc k))
 unfold piecesK
 refine List.Pairwise.filterMap _ (fun p q hpq s hs t ht => ?_) h
 split at hs
 · split at ht
   · cases hs; cases ht; exact hpq
   · cases ht
 · cases hs
theorem pcs_find (f : Nat → Bool) : ∀ {l : List Nat} {x : Nat}, Asc l → (∀ a, l.head? = some a → a ≤ x) → l ≠ [] → x < 18446744073709551616 → ∃ p ∈ pcsL f l, p.1.1 ≤ x ∧ x ≤ p.1.2 ∧ p.2 = f p.1.1
 | [], x, _, _, h, _ => absurd rfl h
 | [a], x, _, h, _, hx => ⟨((a, 18446744073709551615), f a), by simp [pcsL], h a rfl, by simp only; omega, rfl⟩
 | a :: b :: r, x, hA, h, _, hx => by
   rw [pcsL]
   by_cases hb : b ≤ x
   · obtain ⟨p, hp, h1⟩ := pcs_find f (l := b :: r) (x := x) hA.tail (fun c hc => by cases hc; exact hb) (by simp) hx
     exact ⟨p, List.mem_cons_of_mem _ hp, h1⟩
   · have ha := h a rfl
     exact ⟨((a, b - 1), f a), List.mem_cons_self .., ha, by simp only; omega, rfl⟩
theorem starts_head (k : Kno) : ∀ a, (startsK k).head? = some a → a = 0 := by
 intro a ha
 have h0 := startsK_zero k
 have hA := startsK_asc k
 cases hs : startsK k with
 | nil => rw [hs] at h0; cases h0
 | cons b l =>
  rw [hs] at ha h0 hA
  cases ha
  rcases List.mem_cons.1 h0 with e | e
  · exact e.symm
  · have := hA.lower 0 e; omega
theorem pieces_find {k : Kno} (hk : LtK k) {x : Nat} (h : membersK k x ≠ []) : ∃ s ∈ piecesK k, s.1 ≤ x ∧ x ≤ s.2 := by
 have hx : x < 18446744073709551616 := by
  refine Nat.lt_of_not_le fun hge => h (members_none.2 fun f hf => mem_top (hk f hf).items hge)
 obtain ⟨p, hp, h1, h2, h3⟩ := pcs_find (inK k) (l := startsK k) (x := x) (startsK_asc k) (fun a ha => by rw [starts_head k a ha]; exact Nat.zero_le _) (List.ne_nil_of_mem (startsK_zero k)) hx
 have hc : inK k p.1.1 = true := by
  obtain ⟨i, hi, rfl⟩ := List.getElem_of_mem hp
  have hi' := hi
  rw [pcsL_len] at hi'
  have e := pcsL_get (inK k) hi'
  rw [List.getElem?_eq_getElem hi] at e
  have e' := Option.some.inj e
  rw [e'] at h1 h2 ⊢
  have hcx : membersK k x = membersK k (nth (startsK k) i) := by
   have hA := startsK_asc k
   refine members_const hk x (by split at h1 <;> exact h1) hx fun y hy hyx => ?_
   obtain ⟨j, hj, rfl⟩ := mem_nth hy
   rcases Nat.lt_trichotomy j i with g | g | g
   · have := asc_get hA g hi'; omega
   · subst g; omega
   · split at h2
     · rename_i g1
       simp only at h2
       have g2 := asc_get hA (i := i) (j := i + 1) (by omega) g1
       by_cases ej : j = i + 1
       · subst ej; omega
       · have := asc_get hA (i := i + 1) (j := j) (by omega) hj; omega
     · omega
  have hne : membersK k (nth (startsK k) i) ≠ [] := by rw [← hcx]; exact h
  unfold inK
  split <;> exact decide_eq_true hne
 exact ⟨p.1, List.mem_filterMap.2 ⟨p, hp, by rw [if_pos (h3.trans hc)]⟩, h1, h2⟩
theorem known_members {k : Kno} {x y : Nat} (h : membersK k x = membersK k y) (r c : Nat) : knownK k x r c = knownK k y r c := by
 rw [Bool.eq_iff_iff, knownK_iff, knownK_iff]
 have e := members_eq h
 constructor
 · rintro ⟨f, hf, h1, h2⟩; exact ⟨f, hf, by rw [← e f hf]; exact h1, h2⟩
 · rintro ⟨f, hf, h1, h2⟩; exact ⟨f, hf, by rw [e f hf]; exact h1, h2⟩
theorem refine_can {k : Kno} (hk : LtK k) :
 (∀ f ∈ refineK k, ∃ s : Iv, f.1 = [s] ∧ s.1 ≤ s.2 ∧ s.2 < 18446744073709551616 ∧ CanV f.2 ∧ LtV f.2) ∧
 (refineK k).Pairwise (fun f g => ∀ x, mem f.1 x = true → mem g.1 x = true → False) ∧
 ∀ x r c, knownK (refineK k) x r c = knownK k x r c := by
 refine ⟨fun f hf => ?_, ?_, fun x r c => ?_⟩
 · obtain ⟨s, hs, rfl⟩ := List.mem_map.1 hf
   obtain ⟨h1, h2, _⟩ := pieces_mem hk hs
   exact ⟨s, rfl, h1, h2, (atK_can hk s.1).1, (atK_can hk s.1).2.1⟩
 · unfold refineK
   rw [List.pairwise_map]
   refine (pieces_sorted k).imp fun {s t} hst x hx hy => ?_
   simp [mem] at hx hy
   omega
 · rw [Bool.eq_iff_iff]
   constructor
   · intro h
     obtain ⟨f, hf, h1, h2⟩ := knownK_iff.1 h
     obtain ⟨s, hs, rfl⟩ := List.mem_map.1 hf
     simp [mem] at h1
     obtain ⟨_, _, h3⟩ := pieces_mem hk hs
     rw [known_members (h3 x h1.1 h1.2)]
     rw [← (atK_can hk s.1).2.2]
     exact h2
   · intro h
     have hne : membersK k x ≠ [] := by
      intro e
      obtain ⟨f, hf, h1, _⟩ := knownK_iff.1 h
      rw [members_none.1 e f hf] at h1; cases h1
     obtain ⟨s, hs, h1, h2⟩ := pieces_find hk hne
     obtain ⟨_, _, h3⟩ := pieces_mem hk hs
     refine knownK_iff.2 ⟨([s], atK k s.1), List.mem_map.2 ⟨s, hs, rfl⟩, by simp [mem]; omega, ?_⟩
     show knownV (atK k s.1) r c = true
     rw [(atK_can hk s.1).2.2, ← known_members (h3 x h1 h2)]
     exact h
end
end Go.Proofs.YtkkdlgcfcbaibaaGreatDoor
