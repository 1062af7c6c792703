/- Walks and laws, joined: La28. -/
import Derived.StillTailTactics
import Derived.Lib.BitFns
import Derived.Laws.BitsAllLaws
import Derived.Test.YtkkdlgcfcbaibaaGreatDoorLa27
import Derived.Test.YtkkdlgcfcbaibaaGreatDoorLa07
import Derived.Test.YtkkdlgcfcbaibaaGreatDoorLa23
import Derived.Test.YtkkdlgcfcbaibaaGreatDoorLa01
set_option linter.unusedVariables false
namespace Go.Proofs.YtkkdlgcfcbaibaaGreatDoor
section
open Go.RowKit
theorem own_row {w w' : World} {base sz n : Nat} {e : TypeId} {v : Value} {xs : List Value} (h : w.ownsRow base e sz v n xs) (hk : ∀ k, v.ownBlock = some k → w'.heap[k]? = w.heap[k]?) : w'.ownsRow base e sz v n xs := by
 refine ⟨h.1, ?_⟩
 rcases h.2 with h2 | ⟨g, cap, cur, hv, hg, hh, r⟩
 · exact .inl h2
 · subst hv
   exact .inr ⟨g, cap, cur, rfl, hg, (hk g rfl).trans hh, r⟩
theorem map_set {β : Type} (f : Nat → β) (n k : Nat) (a : β) : ((List.range n).map f).set k a = (List.range n).map fun i => if i = k then a else f i := by
 refine List.ext_getElem (by simp) fun i h1 h2 => ?_
 rw [List.getElem_set]
 simp only [List.getElem_map, List.getElem_range]
 by_cases h : k = i
 · rw [if_pos h, if_pos h.symm]
 · rw [if_neg h, if_neg (fun e => h e.symm)]
theorem frgC_setA : ∀ (ss : List (Value × Value)) (k : Nat) (x : Value), (frgC ss).set (k * 2) x = frgC (ss.set k (x, (ss.getD k (x, x)).2))
 | [], k, x => by simp [frgC]
 | s :: ss, 0, x => rfl
 | s :: ss, k + 1, x => by
   have e1 : frgC (s :: ss) = s.1 :: s.2 :: frgC ss := rfl
   rw [e1, show (k + 1) * 2 = k * 2 + 1 + 1 by omega, List.set_cons_succ, List.set_cons_succ, frgC_setA ss k x]
   rfl
def frgF (n : Nat) (X Y : Nat → Value) : List Value := frgC ((List.range n).map fun i => (X i, Y i))
def upd {β : Type} (X : Nat → β) (k : Nat) (x : β) : Nat → β := fun i => if i = k then x else X i
theorem upd_at {β : Type} (X : Nat → β) (k : Nat) (x : β) : upd X k x k = x := if_pos rfl
theorem upd_other {β : Type} (X : Nat → β) {k i : Nat} (x : β) (h : i ≠ k) : upd X k x i = X i := if_neg h
theorem frgF_setX {n k : Nat} (hk : k < n) (X Y : Nat → Value) (x : Value) : (frgF n X Y).set (k * 2) x = frgF n (upd X k x) Y := by
 unfold frgF
 rw [frgC_setA, map_set]
 congr 1
 refine List.map_congr_left fun i hi => ?_
 by_cases h : i = k
 · subst h
   simp [upd, hk]
 · simp [upd, h]
theorem frgF_get {n k : Nat} (hk : k < n) (X Y : Nat → Value) : (frgF n X Y)[k * 2]? = some (X k) ∧ (frgF n X Y)[k * 2 + 1]? = some (Y k) :=
 frgC_get (p := (X k, Y k)) (by simp [hk])
structure BldM (w2 w : World) (base g n c : Nat) (Y : Nat → Value) (L : Nat → List Iv) (X : Nat → Value) : Prop where
 kept : Kept (fun b => b < w2.heap.size ∧ b ≠ g) w2 w
 row : w.ownsRow base 39 2 (.slice (some ⟨g, 0, none⟩) n c) n (frgF n X Y)
 its : ∀ i, i < n → w.ownsRow w2.heap.size 73 2 (X i) (L i).length (ivC (L i))
 apart : ∀ i, i < n → ∀ j, j < n → i ≠ j → ∀ b, (X i).ownBlock = some b → (X j).ownBlock ≠ some b
theorem BldM.cells {w2 w : World} {base g n c : Nat} {Y : Nat → Value} {L : Nat → List Iv} {X : Nat → Value} (h : BldM w2 w base g n c Y L X) {i : Nat} (hi : i < n) : w.cell? ⟨g, i * 2, none⟩ = some (X i) ∧ w.cell? ⟨g, i * 2 + 1, none⟩ = some (Y i) := by
 obtain ⟨e1, e2⟩ := frgF_get hi X Y
 have c1 := h.row.cells (g := g) rfl _ _ e1
 have c2 := h.row.cells (g := g) rfl _ _ e2
 rw [add_at, Nat.zero_add] at c1 c2
 exact ⟨c1, c2⟩
theorem BldM.below {w2 w w' : World} {base g n c : Nat} {Y : Nat → Value} {L : Nat → List Iv} {X : Nat → Value} (h : BldM w2 w base g n c Y L X) (hb : Below w.heap.size w w') : BldM w2 w' base g n c Y L X :=
 ⟨h.kept.below hb, own_below h.row hb, fun i hi => own_below (h.its i hi) hb, h.apart⟩
theorem BldM.step {w2 w w' : World} {base g n c j : Nat} {Y : Nat → Value} {L L' : Nat → List Iv} {X : Nat → Value} (h : BldM w2 w base g n c Y L X) (hj : j < n) (hg : g < w2.heap.size) {v' : Value} {l : List Iv}
 (ho : w'.ownsRow w2.heap.size 73 2 v' l.length (ivC l)) (hgr : w.grownBy w' (X j).ownBlock) (hv : ∀ g', v'.ownBlock = some g' → (X j).ownBlock = some g' ∨ w.heap.size ≤ g') (hL : L' j = l) (hO : ∀ i, i ≠ j → L' i = L i) :
 BldM w2 (w'.setCell ⟨g, j * 2, none⟩ v') base g n c Y L' (upd X j v') := by
 have hne : ∀ k, (X j).ownBlock = some k → w2.heap.size ≤ k := fun k hk => ((h.its j hj).lt k hk).1
 have hgw : g < w.heap.size := Nat.lt_of_lt_of_le hg h.kept.size
 have hrow' : w'.ownsRow base 39 2 (.slice (some ⟨g, 0, none⟩) n c) n (frgF n X Y) := own_row h.row fun k hk => by
  have e : k = g := by simpa [Value.ownBlock] using hk.symm
  subst e
  exact hgr.block k hgw fun e => by have := hne k e.symm; omega
 have hset : ∀ k, w2.heap.size ≤ k → (w'.setCell ⟨g, j * 2, none⟩ v').heap[k]? = w'.heap[k]? := fun k hk => Below.heap_setCell _ _ _ _ (by simp only; omega)
 refine ⟨(h.kept.grown hgr fun k hk hl => ?_).setCell (fun _ h => h.2 rfl) _, ?_, fun i hi => ?_, fun i hi i' hi' hii b => ?_⟩
 · have := hne k hk; omega
 · rw [← frgF_setX hj]
   exact (hrow'.stored (j * 2) v').1
 · by_cases e : i = j
   · subst e
     rw [upd_at, hL]
     exact own_row ho fun k hk => hset k (ho.lt k hk).1
   · rw [upd_other _ _ e, hO i e]
     refine own_row (h.its i hi) fun k hk => ?_
     have hkl := (h.its i hi).lt k hk
     rw [hset k hkl.1]
     exact hgr.block k hkl.2 (fun e' => h.apart i hi j hj e k hk e'.symm)
 · by_cases e : i = j
   · subst e
     rw [upd_at, upd_other _ _ (fun e => hii e.symm)]
     intro hb hb'
     have hkl := (h.its i' hi').lt b hb'
     rcases hv b hb with h' | h'
     · exact h.apart i hi i' hi' hii b h' hb'
     · omega
   · rw [upd_other _ _ e]
     intro hb
     by_cases e' : i' = j
     · subst e'
       rw [upd_at]
       intro hb'
       have hkl := (h.its i hi).lt b hb
       rcases hv b hb' with h' | h'
       · exact h.apart i hi i' hi' hii b hb h'
       · omega
     · rw [upd_other _ _ e']
       exact h.apart i hi i' hi' hii b hb
theorem enSl_kept {w2 w : World} {base g : Nat} {y : Value} {v : Vec} (h : EnSl w2 base y v) (hk : Kept (fun b => b < w2.heap.size ∧ b ≠ g) w2 w) {C : Array Value} {fr : Nat × Nat} (hg : w2.heap[g]? = some (.cells C 39 fr)) (hb : base ≤ g) : EnSl w base y v := by
 refine h.steady (P := isEnT) ⟨hk.size, fun k hk2 hp => hk.row k hk2 ⟨hk2, fun e => ?_⟩⟩ (.inl rfl) (.inr rfl)
 subst e
 rcases hp with h' | ⟨C', T, fr', hT, h'⟩
 · omega
 · rw [hg] at h'
   cases h'
   rcases hT with h | h <;> cases h
theorem BldM.frags {w2 w : World} {base g n c ib : Nat} {Y : Nat → Value} {L : Nat → List Iv} {X : Nat → Value} (h : BldM w2 w base g n c Y L X) (hg : base ≤ g) (hib : ib ≤ g) {k : Kno} (hk : k.length = n) (hL : ∀ i, i < n → (nthF k i).1 = L i) (h64 : ∀ i, i < n → Lt64 (L i)) (hY : ∀ i, i < n → EnSl w2 ib (Y i) (nthF k i).2)
 {C : Array Value} {fr : Nat × Nat} (hr : w2.heap[g]? = some (.cells C 39 fr)) : Frags w (some ⟨g, 0, none⟩) n c k := by
 have hcc : n ≤ c ∧ c ≤ 9223372036854775807 := by
  rcases h.row.2 with ⟨h', _⟩ | ⟨g', cap, cur, h', _, _, hnc, hcm, _⟩
  · cases h'
  · cases h'; unfold maxLen at hcm; omega
 refine ⟨hk, hcc.1, hcc.2, (by intro e; cases e), fun hn => ⟨g, 0, rfl, fun i hi => ?_⟩⟩
 · obtain ⟨c1, c2⟩ := h.cells hi
   rw [Nat.zero_add]
   constructor
   · obtain ⟨a, c, e, hI⟩ := ivs_own (h.its i hi) (h64 i hi)
     rw [e] at c1
     exact ⟨a, _, c, c1, by rw [hL i hi]; exact hI⟩
   · obtain ⟨a, m, c, e, hE⟩ := enSl_kept (hY i hi) h.kept hr hib
     rw [e] at c2
     exact ⟨a, m, c, c2, hE.ents⟩
structure Vecs (w : World) (a : Option Addr) (n cap : Nat) (vs : List Vec) : Prop where
 len : vs.length = n
 room : n ≤ cap
 most : cap ≤ 9223372036854775807
 nilc : a = none → cap = 0
 cells : 0 < n → ∃ b o, a = some ⟨b, o, none⟩ ∧ ∀ i, i < n → EnCell w ⟨b, o + i, none⟩ (nthV vs i)
theorem Vecs.below {w w' : World} {a : Option Addr} {n cap : Nat} {vs : List Vec} (h : Vecs w a n cap vs) (hb : Below w.heap.size w w') : Vecs w' a n cap vs := by
 refine ⟨h.len, h.room, h.most, h.nilc, fun hn => ?_⟩
 obtain ⟨b, o, ha, hc⟩ := h.cells hn
 exact ⟨b, o, ha, fun i hi => (hc i hi).below hb⟩
theorem Vecs.fix {w : World} {b o n cap : Nat} {vs : List Vec} (h : Vecs w (some ⟨b, o, none⟩) n cap vs) {i : Nat} (hi : i < n) : ∃ y m c, ∀ w', Below w.heap.size w w' → w'.cell? ⟨b, o + i, none⟩ = some (.slice y m c) ∧ Ents w' y m c (nthV vs i) := by
 obtain ⟨b', o', hs, hc⟩ := h.cells (by omega)
 cases hs
 obtain ⟨y, m, c, h1, h2⟩ := hc i hi
 exact ⟨y, m, c, fun w' hb => ⟨(hb.cell (cell_lt h1)).trans h1, h2.below hb⟩⟩
theorem Vecs.some {w : World} {a : Option Addr} {n cap : Nat} {vs : List Vec} (h : Vecs w a n cap vs) (hn : 0 < n) : ∃ b o, a = some ⟨b, o, none⟩ := by
 obtain ⟨b, o, ha, -⟩ := h.cells hn
 exact ⟨b, o, ha⟩
structure Zs (w : World) (a : Option Addr) (n cap : Nat) (l : List Int) : Prop where
 len : l.length = n
 room : n ≤ cap
 most : cap ≤ 9223372036854775807
 nilc : a = none → cap = 0
 lt : ∀ x ∈ l, -9223372036854775808 ≤ x ∧ x ≤ 9223372036854775807
 cells : 0 < n → ∃ b o, a = some ⟨b, o, none⟩ ∧ ∀ i, i < n → w.cell? ⟨b, o + i, none⟩ = some (.int .i64 (nthZ l i))
theorem Zs.below {w w' : World} {a : Option Addr} {n cap : Nat} {l : List Int} (h : Zs w a n cap l) (hb : Below w.heap.size w w') : Zs w' a n cap l := by
 refine ⟨h.len, h.room, h.most, h.nilc, h.lt, fun hn => ?_⟩
 obtain ⟨b, o, ha, hc⟩ := h.cells hn
 exact ⟨b, o, ha, fun i hi => (hb.cell (p := ⟨b, o + i, none⟩) (cell_lt (hc i hi))).trans (hc i hi)⟩
theorem I64s.zs {w : World} {a : Option Addr} {n cap : Nat} {l : List Nat} (h : I64s w a n cap l) (hl : ∀ x ∈ l, x ≤ 9223372036854775807) : Zs w a n cap (l.map fun x : Nat => (x : Int)) := by
 refine ⟨by rw [List.length_map]; exact h.len, h.room, h.most, h.nilc, fun x hx => ?_, fun hn => ?_⟩
 · obtain ⟨y, hy, rfl⟩ := List.mem_map.1 hx
   have := hl y hy
   omega
 · obtain ⟨b, o, ha, hc⟩ := h.cells hn
   refine ⟨b, o, ha, fun i hi => ?_⟩
   have e : nthZ (l.map fun x : Nat => (x : Int)) i = ((nth l i : Nat) : Int) := by
    have hi' : i < l.length := by rw [h.len]; exact hi
    rw [nthZ_get (by simpa using hi')]
    simp [nth, hi']
   rw [e]
   exact hc i hi
end
section
open Go.RowKit
attribute [local go_sem] run_store_fn
theorem field0_still (g : Nat) (w : World) : Calls Tryz.prog 84 #[.pointer (some ⟨g, 0, none⟩)] w fun x w' => x = .returned (.pointer (some ⟨g, 0, none⟩)) ∧ w' = w := (field0_any g w).mono fun e w' h => ⟨h.1, h.2.symm⟩
theorem field1_still (g : Nat) (w : World) : Calls Tryz.prog 85 #[.pointer (some ⟨g, 0, none⟩)] w fun x w' => x = .returned (.pointer (some ⟨g, 1, none⟩)) ∧ w' = w := (field1_any g w).mono fun e w' h => ⟨h.1, h.2.symm⟩
theorem field2_still (g : Nat) (w : World) : Calls Tryz.prog 86 #[.pointer (some ⟨g, 0, none⟩)] w fun x w' => x = .returned (.pointer (some ⟨g, 2, none⟩)) ∧ w' = w := (field2_any g w).mono fun e w' h => ⟨h.1, h.2.symm⟩
theorem field3_still (g : Nat) (w : World) : Calls Tryz.prog 87 #[.pointer (some ⟨g, 0, none⟩)] w fun x w' => x = .returned (.pointer (some ⟨g, 3, none⟩)) ∧ w' = w := (field3_any g w).mono fun e w' h => ⟨h.1, h.2.symm⟩
theorem field4_still (g : Nat) (w : World) : Calls Tryz.prog 88 #[.pointer (some ⟨g, 0, none⟩)] w fun x w' => x = .returned (.pointer (some ⟨g, 4, none⟩)) ∧ w' = w := (field4_any g w).mono fun e w' h => ⟨h.1, h.2.symm⟩
def joinRow (a b : Lim) : Nat → List Value
 | 0 => [.int .i64 a.1, .int .i64 a.2.1, .int .i64 a.2.2.1, .int .i64 a.2.2.2.1, .int .i64 a.2.2.2.2]
 | 1 => [.int .i64 (max a.1 b.1), .int .i64 a.2.1, .int .i64 a.2.2.1, .int .i64 a.2.2.2.1, .int .i64 a.2.2.2.2]
 | 2 => [.int .i64 (max a.1 b.1), .int .i64 (max a.2.1 b.2.1), .int .i64 a.2.2.1, .int .i64 a.2.2.2.1, .int .i64 a.2.2.2.2]
 | 3 => [.int .i64 (max a.1 b.1), .int .i64 (max a.2.1 b.2.1), .int .i64 (max a.2.2.1 b.2.2.1), .int .i64 a.2.2.2.1, .int .i64 a.2.2.2.2]
 | 4 => [.int .i64 (max a.1 b.1), .int .i64 (max a.2.1 b.2.1), .int .i64 (max a.2.2.1 b.2.2.1), .int .i64 (max a.2.2.2.1 b.2.2.2.1), .int .i64 a.2.2.2.2]
 | _ => [.int .i64 (max a.1 b.1), .int .i64 (max a.2.1 b.2.1), .int .i64 (max a.2.2.1 b.2.2.1), .int .i64 (max a.2.2.2.1 b.2.2.2.1), .int .i64 (max a.2.2.2.2 b.2.2.2.2)]
def sl1 (g : Nat) : Value := .slice (some ⟨g, 0, none⟩) 1 1
theorem own_set_other {w : World} {base sz n g j : Nat} {e : TypeId} {h : Nat} {xs : List Value} {u : Value} (ho : w.ownsRow base e sz (sl1 h) n xs) (hg : h ≠ g) : (w.setCell ⟨g, j, none⟩ u).ownsRow base e sz (sl1 h) n xs :=
 own_row ho fun k hk => Below.heap_setCell _ _ _ _ (by
  have : h = k := by simpa [sl1, Value.ownBlock] using hk
  subst this
  exact hg)
set_option maxRecDepth 100000 in
set_option maxHeartbeats 8000000 in
theorem limJoin_any (a b : Lim) (w : World) : Calls Tryz.prog 25 #[limV a, limV b] w fun x w' => x = .returned (limV (limJ a b)) ∧ Below w.heap.size w w' := by
 have hal : Below w.heap.size w (((w.alloc (.cells #[.int .i64 a.1, .int .i64 a.2.1, .int .i64 a.2.2.1, .int .i64 a.2.2.2.1, .int .i64 a.2.2.2.2] 47)).alloc (.cells #[.int .i64 b.1, .int .i64 b.2.1, .int .i64 b.2.2.1, .int .i64 b.2.2.2.1, .int .i64 b.2.2.2.2] 47)).alloc (.cells #[.int .i64 0, .int .i64 0, .int .i64 0, .int .i64 0, .int .i64 0] 47)) := (((Below.refl _ _).alloc (Nat.le_refl _) _).alloc (by simp) _).alloc (by simp only [World.size_alloc]; omega) _
 have hA : (((w.alloc (.cells #[.int .i64 a.1, .int .i64 a.2.1, .int .i64 a.2.2.1, .int .i64 a.2.2.2.1, .int .i64 a.2.2.2.2] 47)).alloc (.cells #[.int .i64 b.1, .int .i64 b.2.1, .int .i64 b.2.2.1, .int .i64 b.2.2.2.1, .int .i64 b.2.2.2.2] 47)).alloc (.cells #[.int .i64 0, .int .i64 0, .int .i64 0, .int .i64 0, .int .i64 0] 47)).ownsRow w.heap.size 47 5 (sl1 w.heap.size) 1 (joinRow a b 0) :=
  ((World.ownsRow_lit (e := 47) (size := 5) (base := w.heap.size) w #[.int .i64 a.1, .int .i64 a.2.1, .int .i64 a.2.2.1, .int .i64 a.2.2.2.1, .int .i64 a.2.2.2.2] 1 (Nat.le_refl _) (by unfold maxLen; omega) rfl).alloc _).alloc _
 have hB : (((w.alloc (.cells #[.int .i64 a.1, .int .i64 a.2.1, .int .i64 a.2.2.1, .int .i64 a.2.2.2.1, .int .i64 a.2.2.2.2] 47)).alloc (.cells #[.int .i64 b.1, .int .i64 b.2.1, .int .i64 b.2.2.1, .int .i64 b.2.2.2.1, .int .i64 b.2.2.2.2] 47)).alloc (.cells #[.int .i64 0, .int .i64 0, .int .i64 0, .int .i64 0, .int .i64 0] 47)).ownsRow w.heap.size 47 5 (sl1 (w.heap.size + 1)) 1 (#[.int .i64 b.1, .int .i64 b.2.1, .int .i64 b.2.2.1, .int .i64 b.2.2.2.1, .int .i64 b.2.2.2.2] : Array Value).toList := by
  have := (World.ownsRow_lit (e := 47) (size := 5) (base := w.heap.size) (w.alloc (.cells #[.int .i64 a.1, .int .i64 a.2.1, .int .i64 a.2.2.1, .int .i64 a.2.2.2.1, .int .i64 a.2.2.2.2] 47)) #[.int .i64 b.1, .int .i64 b.2.1, .int .i64 b.2.2.1, .int .i64 b.2.2.2.1, .int .i64 b.2.2.2.2] 1 (by simp) (by unfold maxLen; omega) rfl).alloc (.cells #[.int .i64 0, .int .i64 0, .int .i64 0, .int .i64 0, .int .i64 0] 47)
  rwa [World.size_alloc] at this
 have hR : (((w.alloc (.cells #[.int .i64 a.1, .int .i64 a.2.1, .int .i64 a.2.2.1, .int .i64 a.2.2.2.1, .int .i64 a.2.2.2.2] 47)).alloc (.cells #[.int .i64 b.1, .int .i64 b.2.1, .int .i64 b.2.2.1, .int .i64 b.2.2.2.1, .int .i64 b.2.2.2.2] 47)).alloc (.cells #[.int .i64 0, .int .i64 0, .int .i64 0, .int .i64 0, .int .i64 0] 47)).ownsRow w.heap.size 47 5 (sl1 (w.heap.size + 2)) 1 (#[.int .i64 0, .int .i64 0, .int .i64 0, .int .i64 0, .int .i64 0] : Array Value).toList := by
  have := World.ownsRow_lit (e := 47) (size := 5) (base := w.heap.size) ((w.alloc (.cells #[.int .i64 a.1, .int .i64 a.2.1, .int .i64 a.2.2.1, .int .i64 a.2.2.2.1, .int .i64 a.2.2.2.2] 47)).alloc (.cells #[.int .i64 b.1, .int .i64 b.2.1, .int .i64 b.2.2.1, .int .i64 b.2.2.2.1, .int .i64 b.2.2.2.2] 47)) #[.int .i64 0, .int .i64 0, .int .i64 0, .int .i64 0, .int .i64 0] 1 (by simp only [World.size_alloc]; omega) (by unfold maxLen; omega) rfl
  rwa [World.size_alloc, World.size_alloc] at this
 have Hal := Lib.hid hal; have HA := Lib.hid hA; have HB := Lib.hid hB; have HR := Lib.hid hR
 have Hj := Lib.hid (show limV (limJ a b) = .agg (joinRow a b 5).toArray from rfl)
 unfold limV
 clear hal hA hB hR
 go_enter Tryz.func25, Tryz.ntmps25
 go_wp2_with fail
 generalize ((w.alloc (.cells #[.int .i64 a.1, .int .i64 a.2.1, .int .i64 a.2.2.1, .int .i64 a.2.2.2.1, .int .i64 a.2.2.2.2] 47)).alloc (.cells #[.int .i64 b.1, .int .i64 b.2.1, .int .i64 b.2.2.1, .int .i64 b.2.2.2.1, .int .i64 b.2.2.2.2] 47)).alloc (.cells #[.int .i64 0, .int .i64 0, .int .i64 0, .int .i64 0, .int .i64 0] 47) = W at *
 refine (fields_any _).mono ?_
 rintro e w1 ⟨rfl, hb1⟩
 have Hb1 := Lib.hid (Hal.out.trans (hb1.mono Hal.out.size))
 have HA1 := Lib.hid (own_below HA.out hb1)
 have HB1 := Lib.hid (own_below HB.out hb1)
 have HR1 := Lib.hid (own_below HR.out hb1)
 clear hb1 HA HB HR
 unfold fieldsV fieldV
 go_wp2
 go_loopw [6, 8] (fun _ i wr => ∃ q : Nat, q ≤ 5 ∧ i = .int .i64 q ∧ Below w.heap.size w wr ∧ Hid (wr.ownsRow w.heap.size 47 5 (sl1 w.heap.size) 1 (joinRow a b q)) ∧ Hid (wr.ownsRow w.heap.size 47 5 (sl1 (w.heap.size + 1)) 1 (#[.int .i64 b.1, .int .i64 b.2.1, .int .i64 b.2.2.1, .int .i64 b.2.2.2.1, .int .i64 b.2.2.2.2] : Array Value).toList) ∧ Hid (wr.ownsRow w.heap.size 47 5 (sl1 (w.heap.size + 2)) 1 (#[.int .i64 0, .int .i64 0, .int .i64 0, .int .i64 0, .int .i64 0] : Array Value).toList)) (fun _ i _ => 5 - (intOf i).toNat)
 case atStart => exact ⟨0, by omega, rfl, Hb1.out, HA1, HB1, HR1⟩
 case round =>
  obtain ⟨q, hq5, rfl, hb, hoA, hoB, hoR⟩ := hrel
  have Hb := Lib.hid hb; clear hb HA1 HB1 HR1 Hb1
  by_cases hq : q < 5
  · rcases (by omega : q = 0 ∨ q = 1 ∨ q = 2 ∨ q = 3 ∨ q = 4) with rfl | rfl | rfl | rfl | rfl
    · clear hq
      have y1 := hoA.out.cells (g := w.heap.size) rfl 0 _ rfl
      have y2 := hoB.out.cells (g := w.heap.size + 1) rfl 0 _ rfl
      have f1 := own_frozen hoA.out 0
      rw [add_at, Nat.zero_add] at y1 y2
      have hal : Below wr.heap.size wr (wr.alloc (.cells #[.func (.func 84) #[] #[]] 88)) := (Below.refl _ _).alloc (Nat.le_refl _) _
      have x1 := (hal.cell (p := ⟨w.heap.size, 0, none⟩) (cell_lt y1)).trans y1
      have x2 := (hal.cell (p := ⟨w.heap.size + 1, 0, none⟩) (cell_lt y2)).trans y2
      have HA2 := Lib.hid (own_below hoA.out hal)
      have HB2 := Lib.hid (own_below hoB.out hal)
      have HR2 := Lib.hid (own_below hoR.out hal)
      have f2 := own_frozen HA2.out 0
      have x3 : (wr.alloc (.cells #[.func (.func 84) #[] #[]] 88)).cell? ⟨wr.heap.size, 0, none⟩ = some (.func (.func 84) #[] #[]) := cells_cell (i := 0) (row_new rfl) rfl
      have Hb2 := Lib.hid (Hb.out.trans (hal.mono Hb.out.size))
      have HF := Lib.hid (show (joinRow a b 0).set 0 (.int .i64 (max a.1 b.1)) = joinRow a b 1 from rfl)
      clear hal hoA hoB hoR Hb y1 y2 f1
      go_wp2_with (refine wpList_index_st _ _ _ rfl rfl _ 0 5 88 _ _ rfl rfl Tryz.underlying89 (by omega) Tryz.underlying88 sizeField rfl ?_)
      generalize wr.alloc (.cells #[.func (.func 84) #[] #[]] 88) = wq at *
      have z1 : World.cell? { wq with drawn := wq.drawn + 1 } ⟨w.heap.size, 0, none⟩ = some (.int .i64 a.1) := x1
      have z2 : World.cell? { wq with drawn := wq.drawn + 1 } ⟨w.heap.size + 1, 0, none⟩ = some (.int .i64 b.1) := x2
      have z3 : World.cell? { wq with drawn := wq.drawn + 1 } ⟨wr.heap.size, 0, none⟩ = some (.func (.func 84) #[] #[]) := x3
      refine wp_region_still_tail 14 (by kernel_rfl) (by kernel_rfl) ?_
      simp only [List.take_succ_cons, List.take_zero, List.drop_succ_cons, List.drop_zero]
      still_step
      still_step
      still_call (field0_still _ _)
      still_step
      still_step
      still_call (field0_still _ _)
      still_step
      still_step
      still_step
      still_step
      still_call (field0_still _ _)
      still_step
      still_step
      still_step
      refine wpStill_nil ?_
      change wpList _ _ _ _ _ wq.drew
      all_goals go_wp2
      all_goals
       go_roundw
       case rel => exact ⟨1, by omega, by go_num, (Hb2.out.setCell (p := ⟨w.heap.size, 0, none⟩) (Nat.le_refl _) _).drew, by rw [← HF.out]; exact ((HA2.out.stored 0 _).1).drew, (own_set_other HB2.out (by omega)).drew, (own_set_other HR2.out (by omega)).drew⟩
       case measure => simp [intOf]
    · clear hq
      have y1 := hoA.out.cells (g := w.heap.size) rfl 1 _ rfl
      have y2 := hoB.out.cells (g := w.heap.size + 1) rfl 1 _ rfl
      have f1 := own_frozen hoA.out 1
      rw [add_at, Nat.zero_add] at y1 y2
      have hal : Below wr.heap.size wr (wr.alloc (.cells #[.func (.func 85) #[] #[]] 88)) := (Below.refl _ _).alloc (Nat.le_refl _) _
      have x1 := (hal.cell (p := ⟨w.heap.size, 1, none⟩) (cell_lt y1)).trans y1
      have x2 := (hal.cell (p := ⟨w.heap.size + 1, 1, none⟩) (cell_lt y2)).trans y2
      have HA2 := Lib.hid (own_below hoA.out hal)
      have HB2 := Lib.hid (own_below hoB.out hal)
      have HR2 := Lib.hid (own_below hoR.out hal)
      have f2 := own_frozen HA2.out 1
      have x3 : (wr.alloc (.cells #[.func (.func 85) #[] #[]] 88)).cell? ⟨wr.heap.size, 0, none⟩ = some (.func (.func 85) #[] #[]) := cells_cell (i := 0) (row_new rfl) rfl
      have Hb2 := Lib.hid (Hb.out.trans (hal.mono Hb.out.size))
      have HF := Lib.hid (show (joinRow a b 1).set 1 (.int .i64 (max a.2.1 b.2.1)) = joinRow a b 2 from rfl)
      clear hal hoA hoB hoR Hb y1 y2 f1
      go_wp2_with (refine wpList_index_st _ _ _ rfl rfl _ 1 5 88 _ _ rfl rfl Tryz.underlying89 (by omega) Tryz.underlying88 sizeField rfl ?_)
      generalize wr.alloc (.cells #[.func (.func 85) #[] #[]] 88) = wq at *
      have z1 : World.cell? { wq with drawn := wq.drawn + 1 } ⟨w.heap.size, 1, none⟩ = some (.int .i64 a.2.1) := x1
      have z2 : World.cell? { wq with drawn := wq.drawn + 1 } ⟨w.heap.size + 1, 1, none⟩ = some (.int .i64 b.2.1) := x2
      have z3 : World.cell? { wq with drawn := wq.drawn + 1 } ⟨wr.heap.size, 0, none⟩ = some (.func (.func 85) #[] #[]) := x3
      refine wp_region_still_tail 14 (by kernel_rfl) (by kernel_rfl) ?_
      simp only [List.take_succ_cons, List.take_zero, List.drop_succ_cons, List.drop_zero]
      still_step
      still_step
      still_call (field1_still _ _)
      still_step
      still_step
      still_call (field1_still _ _)
      still_step
      still_step
      still_step
      still_step
      still_call (field1_still _ _)
      still_step
      still_step
      still_step
      refine wpStill_nil ?_
      change wpList _ _ _ _ _ wq.drew
      all_goals go_wp2
      all_goals
       go_roundw
       case rel => exact ⟨2, by omega, by go_num, (Hb2.out.setCell (p := ⟨w.heap.size, 1, none⟩) (Nat.le_refl _) _).drew, by rw [← HF.out]; exact ((HA2.out.stored 1 _).1).drew, (own_set_other HB2.out (by omega)).drew, (own_set_other HR2.out (by omega)).drew⟩
       case measure => simp [intOf]
    · clear hq
      have y1 := hoA.out.cells (g := w.heap.size) rfl 2 _ rfl
      have y2 := hoB.out.cells (g := w.heap.size + 1) rfl 2 _ rfl
      have f1 := own_frozen hoA.out 2
      rw [add_at, Nat.zero_add] at y1 y2
      have hal : Below wr.heap.size wr (wr.alloc (.cells #[.func (.func 86) #[] #[]] 88)) := (Below.refl _ _).alloc (Nat.le_refl _) _
      have x1 := (hal.cell (p := ⟨w.heap.size, 2, none⟩) (cell_lt y1)).trans y1
      have x2 := (hal.cell (p := ⟨w.heap.size + 1, 2, none⟩) (cell_lt y2)).trans y2
      have HA2 := Lib.hid (own_below hoA.out hal)
      have HB2 := Lib.hid (own_below hoB.out hal)
      have HR2 := Lib.hid (own_below hoR.out hal)
      have f2 := own_frozen HA2.out 2
      have x3 : (wr.alloc (.cells #[.func (.func 86) #[] #[]] 88)).cell? ⟨wr.heap.size, 0, none⟩ = some (.func (.func 86) #[] #[]) := cells_cell (i := 0) (row_new rfl) rfl
      have Hb2 := Lib.hid (Hb.out.trans (hal.mono Hb.out.size))
      have HF := Lib.hid (show (joinRow a b 2).set 2 (.int .i64 (max a.2.2.1 b.2.2.1)) = joinRow a b 3 from rfl)
      clear hal hoA hoB hoR Hb y1 y2 f1
      go_wp2_with (refine wpList_index_st _ _ _ rfl rfl _ 2 5 88 _ _ rfl rfl Tryz.underlying89 (by omega) Tryz.underlying88 sizeField rfl ?_)
      generalize wr.alloc (.cells #[.func (.func 86) #[] #[]] 88) = wq at *
      have z1 : World.cell? { wq with drawn := wq.drawn + 1 } ⟨w.heap.size, 2, none⟩ = some (.int .i64 a.2.2.1) := x1
      have z2 : World.cell? { wq with drawn := wq.drawn + 1 } ⟨w.heap.size + 1, 2, none⟩ = some (.int .i64 b.2.2.1) := x2
      have z3 : World.cell? { wq with drawn := wq.drawn + 1 } ⟨wr.heap.size, 0, none⟩ = some (.func (.func 86) #[] #[]) := x3
      refine wp_region_still_tail 14 (by kernel_rfl) (by kernel_rfl) ?_
      simp only [List.take_succ_cons, List.take_zero, List.drop_succ_cons, List.drop_zero]
      still_step
      still_step
      still_call (field2_still _ _)
      still_step
      still_step
      still_call (field2_still _ _)
      still_step
      still_step
      still_step
      still_step
      still_call (field2_still _ _)
      still_step
      still_step
      still_step
      refine wpStill_nil ?_
      change wpList _ _ _ _ _ wq.drew
      all_goals go_wp2
      all_goals
       go_roundw
       case rel => exact ⟨3, by omega, by go_num, (Hb2.out.setCell (p := ⟨w.heap.size, 2, none⟩) (Nat.le_refl _) _).drew, by rw [← HF.out]; exact ((HA2.out.stored 2 _).1).drew, (own_set_other HB2.out (by omega)).drew, (own_set_other HR2.out (by omega)).drew⟩
       case measure => simp [intOf]
    · clear hq
      have y1 := hoA.out.cells (g := w.heap.size) rfl 3 _ rfl
      have y2 := hoB.out.cells (g := w.heap.size + 1) rfl 3 _ rfl
      have f1 := own_frozen hoA.out 3
      rw [add_at, Nat.zero_add] at y1 y2
      have hal : Below wr.heap.size wr (wr.alloc (.cells #[.func (.func 87) #[] #[]] 88)) := (Below.refl _ _).alloc (Nat.le_refl _) _
      have x1 := (hal.cell (p := ⟨w.heap.size, 3, none⟩) (cell_lt y1)).trans y1
      have x2 := (hal.cell (p := ⟨w.heap.size + 1, 3, none⟩) (cell_lt y2)).trans y2
      have HA2 := Lib.hid (own_below hoA.out hal)
      have HB2 := Lib.hid (own_below hoB.out hal)
      have HR2 := Lib.hid (own_below hoR.out hal)
      have f2 := own_frozen HA2.out 3
      have x3 : (wr.alloc (.cells #[.func (.func 87) #[] #[]] 88)).cell? ⟨wr.heap.size, 0, none⟩ = some (.func (.func 87) #[] #[]) := cells_cell (i := 0) (row_new rfl) rfl
      have Hb2 := Lib.hid (Hb.out.trans (hal.mono Hb.out.size))
      have HF := Lib.hid (show (joinRow a b 3).set 3 (.int .i64 (max a.2.2.2.1 b.2.2.2.1)) = joinRow a b 4 from rfl)
      clear hal hoA hoB hoR Hb y1 y2 f1
      go_wp2_with (refine wpList_index_st _ _ _ rfl rfl _ 3 5 88 _ _ rfl rfl Tryz.underlying89 (by omega) Tryz.underlying88 sizeField rfl ?_)
      generalize wr.alloc (.cells #[.func (.func 87) #[] #[]] 88) = wq at *
      have z1 : World.cell? { wq with drawn := wq.drawn + 1 } ⟨w.heap.size, 3, none⟩ = some (.int .i64 a.2.2.2.1) := x1
      have z2 : World.cell? { wq with drawn := wq.drawn + 1 } ⟨w.heap.size + 1, 3, none⟩ = some (.int .i64 b.2.2.2.1) := x2
      have z3 : World.cell? { wq with drawn := wq.drawn + 1 } ⟨wr.heap.size, 0, none⟩ = some (.func (.func 87) #[] #[]) := x3
      refine wp_region_still_tail 14 (by kernel_rfl) (by kernel_rfl) ?_
      simp only [List.take_succ_cons, List.take_zero, List.drop_succ_cons, List.drop_zero]
      still_step
      still_step
      still_call (field3_still _ _)
      still_step
      still_step
      still_call (field3_still _ _)
      still_step
      still_step
      still_step
      still_step
      still_call (field3_still _ _)
      still_step
      still_step
      still_step
      refine wpStill_nil ?_
      change wpList _ _ _ _ _ wq.drew
      all_goals go_wp2
      all_goals
       go_roundw
       case rel => exact ⟨4, by omega, by go_num, (Hb2.out.setCell (p := ⟨w.heap.size, 3, none⟩) (Nat.le_refl _) _).drew, by rw [← HF.out]; exact ((HA2.out.stored 3 _).1).drew, (own_set_other HB2.out (by omega)).drew, (own_set_other HR2.out (by omega)).drew⟩
       case measure => simp [intOf]
    · clear hq
      have y1 := hoA.out.cells (g := w.heap.size) rfl 4 _ rfl
      have y2 := hoB.out.cells (g := w.heap.size + 1) rfl 4 _ rfl
      have f1 := own_frozen hoA.out 4
      rw [add_at, Nat.zero_add] at y1 y2
      have hal : Below wr.heap.size wr (wr.alloc (.cells #[.func (.func 88) #[] #[]] 88)) := (Below.refl _ _).alloc (Nat.le_refl _) _
      have x1 := (hal.cell (p := ⟨w.heap.size, 4, none⟩) (cell_lt y1)).trans y1
      have x2 := (hal.cell (p := ⟨w.heap.size + 1, 4, none⟩) (cell_lt y2)).trans y2
      have HA2 := Lib.hid (own_below hoA.out hal)
      have HB2 := Lib.hid (own_below hoB.out hal)
      have HR2 := Lib.hid (own_below hoR.out hal)
      have f2 := own_frozen HA2.out 4
      have x3 : (wr.alloc (.cells #[.func (.func 88) #[] #[]] 88)).cell? ⟨wr.heap.size, 0, none⟩ = some (.func (.func 88) #[] #[]) := cells_cell (i := 0) (row_new rfl) rfl
      have Hb2 := Lib.hid (Hb.out.trans (hal.mono Hb.out.size))
      have HF := Lib.hid (show (joinRow a b 4).set 4 (.int .i64 (max a.2.2.2.2 b.2.2.2.2)) = joinRow a b 5 from rfl)
      clear hal hoA hoB hoR Hb y1 y2 f1
      go_wp2_with (refine wpList_index_st _ _ _ rfl rfl _ 4 5 88 _ _ rfl rfl Tryz.underlying89 (by omega) Tryz.underlying88 sizeField rfl ?_)
      generalize wr.alloc (.cells #[.func (.func 88) #[] #[]] 88) = wq at *
      have z1 : World.cell? { wq with drawn := wq.drawn + 1 } ⟨w.heap.size, 4, none⟩ = some (.int .i64 a.2.2.2.2) := x1
      have z2 : World.cell? { wq with drawn := wq.drawn + 1 } ⟨w.heap.size + 1, 4, none⟩ = some (.int .i64 b.2.2.2.2) := x2
      have z3 : World.cell? { wq with drawn := wq.drawn + 1 } ⟨wr.heap.size, 0, none⟩ = some (.func (.func 88) #[] #[]) := x3
      refine wp_region_still_tail 14 (by kernel_rfl) (by kernel_rfl) ?_
      simp only [List.take_succ_cons, List.take_zero, List.drop_succ_cons, List.drop_zero]
      still_step
      still_step
      still_call (field4_still _ _)
      still_step
      still_step
      still_call (field4_still _ _)
      still_step
      still_step
      still_step
      still_step
      still_call (field4_still _ _)
      still_step
      still_step
      still_step
      refine wpStill_nil ?_
      change wpList _ _ _ _ _ wq.drew
      all_goals go_wp2
      all_goals
       go_roundw
       case rel => exact ⟨5, by omega, by go_num, (Hb2.out.setCell (p := ⟨w.heap.size, 4, none⟩) (Nat.le_refl _) _).drew, by rw [← HF.out]; exact ((HA2.out.stored 4 _).1).drew, (own_set_other HB2.out (by omega)).drew, (own_set_other HR2.out (by omega)).drew⟩
       case measure => simp [intOf]
  · obtain rfl : q = 5 := by omega
    have c0 := hoA.out.cells (g := w.heap.size) rfl 0 _ rfl
    have c1 := hoA.out.cells (g := w.heap.size) rfl 1 _ rfl
    have c2 := hoA.out.cells (g := w.heap.size) rfl 2 _ rfl
    have c3 := hoA.out.cells (g := w.heap.size) rfl 3 _ rfl
    have c4 := hoA.out.cells (g := w.heap.size) rfl 4 _ rfl
    rw [add_at] at c0 c1 c2 c3 c4
    simp only [Nat.zero_add] at c0 c1 c2 c3 c4
    have r0 := hoR.out.cells (g := w.heap.size + 2) rfl 0 _ rfl
    have r1 := hoR.out.cells (g := w.heap.size + 2) rfl 1 _ rfl
    have r2 := hoR.out.cells (g := w.heap.size + 2) rfl 2 _ rfl
    have r3 := hoR.out.cells (g := w.heap.size + 2) rfl 3 _ rfl
    have r4 := hoR.out.cells (g := w.heap.size + 2) rfl 4 _ rfl
    rw [add_at] at r0 r1 r2 r3 r4
    simp only [Nat.zero_add] at r0 r1 r2 r3 r4
    have f0 := own_frozen hoR.out 0
    have f1 := own_frozen hoR.out 1
    have f2 := own_frozen hoR.out 2
    have f3 := own_frozen hoR.out 3
    have f4 := own_frozen hoR.out 4
    go_wp2_with fail
    refine bodyPost_ret (v := limV (limJ a b)) (by simp [results, Tryz.results25, go_sem, World.cell?_setCell_same, World.cell?_setCell_other, r0, r1, r2, r3, r4]; rfl) rfl ?_
    refine ⟨rfl, ?_⟩
    refine Below.setCell (Below.setCell (Below.setCell (Below.setCell (Below.setCell Hb.out ?_ _) ?_ _) ?_ _) ?_ _) ?_ _ <;> (simp; try omega)
end
section
def vbF : Nat → Nat → List Nat
 | 0, x => [x % 256]
 | k + 1, x => if x < 128 then [x] else (x % 128 + 128) :: vbF k (x / 128)
theorem vbF_succ (k x : Nat) : vbF (k + 1) x = if x < 128 then [x] else (x % 128 + 128) :: vbF k (x / 128) := rfl
def vbytes (x : Nat) : List Nat := vbF 9 x
theorem vbytes_eq (x : Nat) : vbytes x = vbF 9 x := rfl
theorem vbF_lt : ∀ (k x : Nat), ∀ b ∈ vbF k x, b < 256
 | 0, x, b, hb => by simp [vbF] at hb; omega
 | k + 1, x, b, hb => by
   rw [vbF_succ] at hb
   split at hb
   · simp at hb; omega
   · rcases List.mem_cons.1 hb with rfl | hb
     · omega
     · exact vbF_lt k (x / 128) b hb
theorem vbF_pos (k x : Nat) : 0 < (vbF k x).length := by
 cases k with
 | zero => simp [vbF]
 | succ k => rw [vbF_succ]; split <;> simp
theorem vbF_len_le : ∀ (k x : Nat), (vbF k x).length ≤ k + 1
 | 0, x => by simp [vbF]
 | k + 1, x => by
   rw [vbF_succ]
   split
   · simp
   · have := vbF_len_le k (x / 128); simp; omega
theorem vbF_more {k x : Nat} (h : 1 < (vbF k x).length) : ∃ k', k = k' + 1 ∧ 128 ≤ x ∧ vbF k x = (x % 128 + 128) :: vbF k' (x / 128) := by
 cases k with
 | zero => simp [vbF] at h
 | succ k =>
  rw [vbF_succ] at h ⊢
  split at h
  · simp at h
  · rename_i h1; rw [if_neg h1]; exact ⟨k, rfl, by omega, rfl⟩
theorem vbF_last {k m : Nat} (h : (vbF k m).length = 1) : vbF k m = [m % 256] := by
 cases k with
 | zero => rfl
 | succ k =>
  rw [vbF_succ] at h ⊢
  split at h
  · rename_i h1; rw [if_pos h1]; congr 1; omega
  · have := vbF_pos k (m / 128); rw [List.length_cons] at h; exfalso; omega
theorem bitLen_small : ∀ n : Fin 128, Lib.bitLen n.val ≤ 7 := by decide +kernel
theorem size_eq : ∀ (k x : Nat), x < 2 ^ (7 * k + 1) → x < 18446744073709551616 → max 1 ((Lib.bitLen x + 6) / 7) = (vbF k x).length
 | 0, x, h, _ => by
   simp at h
   have := bitLen_small ⟨x, by omega⟩
   simp [vbF]
   simp at this
   omega
 | k + 1, x, h, h64 => by
   rw [vbF_succ]
   split
   · rename_i h1
     have := bitLen_small ⟨x, h1⟩
     simp at this ⊢
     omega
   · rename_i h1
     have e : 2 ^ (7 * (k + 1) + 1) = 2 ^ (7 * k + 1) * 128 := by rw [show 7 * (k + 1) + 1 = (7 * k + 1) + 7 from by omega, Nat.pow_add]
     rw [e] at h
     have hd : x / 128 < 2 ^ (7 * k + 1) := by
      clear e
      generalize 2 ^ (7 * k + 1) = P at *
      exact Nat.div_lt_of_lt_mul (by omega)
     have ih := size_eq k (x / 128) hd (Nat.lt_of_le_of_lt (Nat.div_le_self _ _) h64)
     have hs := Lib.bitLen_shift 7 x (by omega) (by simpa using h64)
     rw [show 2 ^ 7 = 128 from rfl] at hs
     have hp := vbF_pos k (x / 128)
     have hz : 0 < Lib.bitLen (x / 128) ∨ Lib.bitLen (x / 128) = 0 := by omega
     simp only [List.length_cons, ← ih, hs]
     have : (7 + Lib.bitLen (x / 128) + 6) / 7 = (Lib.bitLen (x / 128) + 6) / 7 + 1 := by omega
     rw [this]
     have h0 : 0 < Lib.bitLen (x / 128) := by
      have hne : x / 128 ≠ 0 := by omega
      have := Lib.bitLen_half (x / 128) hne (by have := Nat.div_le_self x 128; simp; omega)
      omega
     omega
theorem vbytes_size {x : Nat} (h : x < 18446744073709551616) : max 1 ((Lib.bitLen x + 6) / 7) = (vbytes x).length := size_eq 9 x (by simpa using h) h
theorem or128_nat : ∀ x : Fin 256, x.val ||| 128 = x.val % 128 + 128 := by decide +kernel
theorem or128 (x : Nat) (hx : x < 256) : bits .or .u8 (x : Int) 128 = ((x % 128 + 128 : Nat) : Int) := by
 have h := u8_or_nat x 128 hx (by omega)
 refine h.trans ?_
 congr 1
 exact or128_nat ⟨x, hx⟩
def joinB (l : List Nat) : List Nat := l.flatMap vbytes
theorem joinB_app (a b : List Nat) : joinB (a ++ b) = joinB a ++ joinB b := by simp [joinB]
theorem joinB_one (x : Nat) : joinB [x] = vbytes x := by simp [joinB]
theorem joinB_len : ∀ (l : List Nat), (joinB l).length ≤ 10 * l.length
 | [] => by simp [joinB]
 | x :: l => by
   have e : joinB (x :: l) = vbytes x ++ joinB l := rfl
   have h1 := joinB_len l
   have h2 : (vbytes x).length ≤ 10 := vbF_len_le 9 x
   rw [e, List.length_append, List.length_cons]
   omega
def gapI (l : List Iv) (a i : Nat) : Nat := if i = 0 then (nthI l 0).1 else (nthI l i).1 - (nthI l (i - 1)).2 - 1 - a
def diffsTo (l : List Iv) (a : Nat) : Nat → List Nat
 | 0 => []
 | d + 1 => diffsTo l a d ++ [gapI l a d, (nthI l d).2 - (nthI l d).1]
def diffsN (l : List Iv) (a : Nat) : List Nat := diffsTo l a l.length
def DiffOk (l : List Iv) (a : Nat) : Prop := ∀ i, i < l.length → (nthI l i).1 ≤ (nthI l i).2 ∧ (0 < i → (nthI l (i - 1)).2 + 1 + a ≤ (nthI l i).1)
theorem diffsTo_len (l : List Iv) (a : Nat) : ∀ d, (diffsTo l a d).length = 2 * d
 | 0 => rfl
 | d + 1 => by rw [diffsTo, List.length_append, diffsTo_len l a d]; simp; omega
theorem diffsTo_lt {l : List Iv} {a : Nat} (h : Lt64 l) : ∀ d, d ≤ l.length → ∀ x ∈ diffsTo l a d, x < 18446744073709551616
 | 0, _, x, hx => by cases hx
 | d + 1, hd, x, hx => by
   rw [diffsTo] at hx
   rcases List.mem_append.1 hx with hx | hx
   · exact diffsTo_lt h d (by omega) x hx
   · have h1 := h _ (nthI_mem (show d < l.length from hd))
     simp at hx
     rcases hx with rfl | rfl
     · unfold gapI
       split
       · rename_i e; rw [e] at h1; exact h1.1
       · omega
     · omega
theorem diffsTo_at (l : List Iv) (a : Nat) : ∀ d i, i < d → nth (diffsTo l a d) (2 * i) = gapI l a i ∧ nth (diffsTo l a d) (2 * i + 1) = (nthI l i).2 - (nthI l i).1
 | 0, i, h => by omega
 | d + 1, i, h => by
   have hl := diffsTo_len l a d
   rw [diffsTo]
   by_cases e : i = d
   · subst e
     unfold nth
     rw [List.getD_eq_getElem?_getD, List.getD_eq_getElem?_getD, List.getElem?_append_right (by omega), List.getElem?_append_right (by omega), hl, show 2 * i - 2 * i = 0 by omega, show 2 * i + 1 - 2 * i = 1 by omega]
     exact ⟨rfl, rfl⟩
   · obtain ⟨h1, h2⟩ := diffsTo_at l a d i (by omega)
     unfold nth at h1 h2 ⊢
     rw [List.getD_eq_getElem?_getD] at h1 h2 ⊢
     rw [List.getD_eq_getElem?_getD, List.getElem?_append_left (by omega), List.getElem?_append_left (by omega)]
     exact ⟨h1, h2⟩
theorem good_diff {l : List Iv} (h : Good l) : DiffOk l 1 := fun i hi => by
 have := good_idx h i hi
 exact ⟨this.1, fun h0 => by have := this.2 h0; omega⟩
def repD (v : Vec) (i : Nat) : Nat := if i = 0 then (nthE v 0).1 else (nthE v i).1 - (nthE v (i - 1)).1 - 1
def entN (v : Vec) (i : Nat) : List Nat := [repD v i, (nthE v i).2.1, (nthE v i).2.2.length] ++ diffsN (nthE v i).2.2 1
def packTo (v : Vec) : Nat → List Nat
 | 0 => [v.length]
 | d + 1 => packTo v d ++ entN v d
def packN (v : Vec) : List Nat := packTo v v.length
def vecsTo (c : Kno) : Nat → List Nat
 | 0 => [c.length]
 | d + 1 => vecsTo c d ++ packN (nthF c d).2
def segsTo (l : List Iv) (x : List Nat) : Nat → List Nat
 | 0 => [l.length]
 | d + 1 => segsTo l x d ++ [gapI l 0 d, (nthI l d).2 - (nthI l d).1, nth x d]
def wireN (c : Kno) : List Nat := vecsTo c c.length ++ segsTo ((segK c).map (·.1)) ((segK c).map (·.2)) (segK c).length
end
end Go.Proofs.YtkkdlgcfcbaibaaGreatDoor
