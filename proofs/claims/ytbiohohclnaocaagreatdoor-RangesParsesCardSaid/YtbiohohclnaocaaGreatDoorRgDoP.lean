/-
  Plain law: asked at the numbers where something may change, a set gives its one correct list; intervals in order of their beginnings, joined one by one, too. No program in sight.
-/
import Derived.Test.YtbiohohclnaocaaGreatDoorRgStartsP
namespace Go.Proofs.YtbiohohclnaocaaGreatDoor
set_option linter.unusedVariables false

/-- The pieces from start to start, with what is asked at each start. -/
def pcsL (f : Nat → Bool) : List Nat → List (Iv × Bool)
  | [] => []
  | [a] => [((a, 18446744073709551615), f a)]
  | a :: b :: r => ((a, b - 1), f a) :: pcsL f (b :: r)

theorem pcsL_len (f : Nat → Bool) : ∀ (l : List Nat), (pcsL f l).length = l.length
  | [] => rfl
  | [a] => rfl
  | a :: b :: r => by rw [pcsL, List.length_cons, pcsL_len f (b :: r)]; rfl

theorem pcsL_cover (f : Nat → Bool) : ∀ {a : Nat} {r : List Nat}, Asc (a :: r) → (∀ x ∈ a :: r, x < 18446744073709551616) → Cover 18446744073709551615 a (pcsL f (a :: r))
  | a, [], h, hl => ⟨rfl, by have := hl a (by simp); show a ≤ 18446744073709551615; omega, rfl⟩
  | a, [b], h, hl => by
    have h1 := h.1
    have h2 := hl b (by simp)
    refine ⟨rfl, ?_, ?_, ?_⟩
    · show a ≤ b - 1; omega
    · show b - 1 < 18446744073709551615; omega
    · show Cover _ (b - 1 + 1) (pcsL f [b])
      rw [show b - 1 + 1 = b by omega]
      exact pcsL_cover f (r := []) h.tail fun x hx => hl x (List.mem_cons_of_mem _ hx)
  | a, b :: c :: r, h, hl => by
    have h1 := h.1
    have h2 := hl b (by simp)
    refine ⟨rfl, ?_, ?_, ?_⟩
    · show a ≤ b - 1; omega
    · show b - 1 < 18446744073709551615; omega
    · show Cover _ (b - 1 + 1) (pcsL f (b :: c :: r))
      rw [show b - 1 + 1 = b by omega]
      exact pcsL_cover f (r := c :: r) h.tail fun x hx => hl x (List.mem_cons_of_mem _ hx)

theorem pcsL_any (f : Nat → Bool) : ∀ {a : Nat} {r : List Nat}, Asc (a :: r) → (∀ x ∈ a :: r, x < 18446744073709551616) →
    (∀ c x, a ≤ c → c ≤ x → x < 18446744073709551616 → (∀ y ∈ a :: r, ¬ (c < y ∧ y ≤ x)) → f x = f c) →
    ∀ x, a ≤ x → x < 18446744073709551616 → ((pcsL f (a :: r)).any fun p => p.2 && (decide (p.1.1 ≤ x) && decide (x ≤ p.1.2))) = f x
  | a, [], h, hl, hc, x, h1, h2 => by
    have := hc a x (Nat.le_refl _) h1 h2 (by intro y hy; simp at hy; subst hy; omega)
    simp [pcsL, this, h1, show x ≤ 18446744073709551615 by omega]
  | a, b :: r, h, hl, hc, x, h1, h2 => by
    have hab := h.1
    rw [pcsL, List.any_cons]
    by_cases hx : x < b
    · have e := hc a x (Nat.le_refl _) h1 h2 (by
        intro y hy
        rcases List.mem_cons.1 hy with rfl | hy
        · omega
        · rcases List.mem_cons.1 hy with rfl | hy
          · omega
          · have := h.tail.lower y hy; omega)
      have rest : ((pcsL f (b :: r)).any fun p => p.2 && (decide (p.1.1 ≤ x) && decide (x ≤ p.1.2))) = false := by
        have lo : ∀ {b : Nat} {r : List Nat}, Asc (b :: r) → ∀ p ∈ pcsL f (b :: r), b ≤ p.1.1 := by
          intro b r
          induction r generalizing b with
          | nil => intro _ p hp; simp [pcsL] at hp; subst hp; exact Nat.le_refl _
          | cons c r ih =>
            intro hA p hp
            rw [pcsL] at hp
            rcases List.mem_cons.1 hp with rfl | hp
            · exact Nat.le_refl _
            · have := ih hA.tail p hp
              have := hA.1
              omega
        rw [List.any_eq_false]
        intro p hp
        have := lo h.tail p hp
        simp
        omega
      rw [rest, Bool.or_false, e]
      simp [h1, show x ≤ b - 1 by omega]
    · have ih := pcsL_any f h.tail (fun y hy => hl y (List.mem_cons_of_mem _ hy)) (by
        intro c z hc1 hc2 hc3 hc4
        refine hc c z (by omega) hc2 hc3 ?_
        intro y hy
        rcases List.mem_cons.1 hy with rfl | hy
        · omega
        · exact hc4 y hy) x (by omega) h2
      rw [ih]
      have : decide (x ≤ b - 1) = false := by rw [decide_eq_false_iff_not]; omega
      simp [this]

theorem pcsL_top (f : Nat → Bool) : ∀ {l : List Nat}, (∀ x ∈ l, x < 18446744073709551616) → ∀ p ∈ pcsL f l, p.1.2 < 18446744073709551616
  | [], _, p, hp => by simp [pcsL] at hp
  | [a], _, p, hp => by simp [pcsL] at hp; subst hp; simp
  | a :: b :: r, h, p, hp => by
    rw [pcsL] at hp
    rcases List.mem_cons.1 hp with rfl | hp
    · have := h b (by simp); simp only; omega
    · exact pcsL_top f (fun x hx => h x (List.mem_cons_of_mem _ hx)) p hp

/-- What is asked piece by piece gives the correct list of the set. -/
theorem do_good {f : Nat → Bool} {L : List Nat} (h : Asc L) (hl : ∀ x ∈ L, x < 18446744073709551616) (h0 : 0 ∈ L)
    (hc : ∀ c x, c ≤ x → x < 18446744073709551616 → (∀ y ∈ L, ¬ (c < y ∧ y ≤ x)) → f x = f c) (ht : ∀ x, 18446744073709551616 ≤ x → f x = false) :
    Good (takeL (pcsL f L) []) ∧ ∀ x, mem (takeL (pcsL f L) []) x = f x := by
  cases L with
  | nil => simp at h0
  | cons a r =>
    have ha : a = 0 := by
      rcases List.mem_cons.1 h0 with e | e
      · exact e.symm
      · have := h.lower 0 e; omega
    subst ha
    obtain ⟨g1, g2⟩ := takeL_good (out := []) (pcsL_cover f h hl) trivial (by simp)
    refine ⟨g1, fun x => ?_⟩
    rw [g2, mem_nil, Bool.false_or]
    by_cases hx : x < 18446744073709551616
    · exact pcsL_any f h hl (fun c z _ => hc c z) x (Nat.zero_le _) hx
    · rw [ht x (by omega), List.any_eq_false]
      intro p hp
      have := pcsL_top f hl p hp
      simp
      omega

/-- Between the numbers where a list may change, it does not. -/
theorem mem_const {l : List Iv} (hl : ∀ t ∈ l, t.1 < 18446744073709551616 ∧ t.2 < 18446744073709551616) {c x : Nat} (hcx : c ≤ x) (hx : x < 18446744073709551616) (h : ∀ y ∈ bnds l, ¬ (c < y ∧ y ≤ x)) : mem l x = mem l c := by
  have hb : ∀ s ∈ l, ∀ y ∈ bnd s, y ∈ bnds l := fun s hs y hy => List.mem_flatMap.2 ⟨s, hs, hy⟩
  rw [Bool.eq_iff_iff, mem_iff, mem_iff]
  constructor
  · rintro ⟨s, hs, h1, h2⟩
    refine ⟨s, hs, ?_, by omega⟩
    have := h s.1 (hb s hs s.1 (by simp [bnd]))
    omega
  · rintro ⟨s, hs, h1, h2⟩
    refine ⟨s, hs, by omega, ?_⟩
    refine Nat.le_of_not_lt fun hlt => ?_
    have := h (s.2 + 1) (hb s hs _ (by unfold bnd; rw [if_pos (by omega)]; simp))
    omega

theorem mem_top {l : List Iv} (hl : ∀ t ∈ l, t.1 < 18446744073709551616 ∧ t.2 < 18446744073709551616) {x : Nat} (hx : 18446744073709551616 ≤ x) : mem l x = false := by
  rw [mem_false]
  intro s hs
  have := hl s hs
  omega

theorem bnds_lt {l : List Iv} (hl : ∀ t ∈ l, t.1 < 18446744073709551616 ∧ t.2 < 18446744073709551616) : ∀ y ∈ bnds l, y < 18446744073709551616 := by
  intro y hy
  obtain ⟨s, hs, hy⟩ := List.mem_flatMap.1 hy
  have := hl s hs
  unfold bnd at hy
  split at hy <;> simp at hy <;> omega

theorem takeL_append : ∀ (a b : List (Iv × Bool)) (out : List Iv), takeL (a ++ b) out = takeL b (takeL a out)
  | [], b, out => rfl
  | (s, t) :: a, b, out => by rw [List.cons_append, takeL, takeL, takeL_append a b]

theorem pcsL_get (f : Nat → Bool) : ∀ {l : List Nat} {i : Nat}, i < l.length → (pcsL f l)[i]? = some ((if i + 1 < l.length then (nth l i, nth l (i + 1) - 1) else (nth l i, 18446744073709551615)), f (nth l i))
  | [], i, h => by simp at h
  | [a], i, h => by
    have : i = 0 := by simpa using h
    subst this
    simp [pcsL, nth]
  | a :: b :: r, 0, h => by simp [pcsL, nth]
  | a :: b :: r, i + 1, h => by
    have := pcsL_get f (l := b :: r) (i := i) (by simpa using h)
    rw [pcsL, List.getElem?_cons_succ, this]
    have e1 : nth (a :: b :: r) (i + 1) = nth (b :: r) i := rfl
    have e2 : nth (a :: b :: r) (i + 1 + 1) = nth (b :: r) (i + 1) := rfl
    rw [e1, e2]
    simp only [List.length_cons, Nat.add_lt_add_iff_right]

theorem takeL_lt : ∀ {ps : List (Iv × Bool)} {out : List Iv}, (∀ p ∈ ps, p.1.1 < 18446744073709551616 ∧ p.1.2 < 18446744073709551616) → (∀ t ∈ out, t.1 < 18446744073709551616 ∧ t.2 < 18446744073709551616) → ∀ t ∈ takeL ps out, t.1 < 18446744073709551616 ∧ t.2 < 18446744073709551616
  | [], out, _, ho, t, ht => ho t ht
  | (s, b) :: ps, out, h, ho, t, ht => by
    rw [takeL] at ht
    refine takeL_lt (fun p hp => h p (List.mem_cons_of_mem _ hp)) ?_ t ht
    have hs := h _ (List.mem_cons_self ..)
    simp only at hs
    cases b with
    | false => exact ho
    | true =>
      intro u hu
      rw [if_pos rfl] at hu
      rcases nil_or_snoc out with rfl | ⟨a, v, rfl⟩
      · simp [putL_nil] at hu; subst hu; exact hs
      · have hv := ho v (by simp)
        rw [putL_snoc] at hu
        split at hu
        · rcases List.mem_append.1 hu with hu | hu
          · exact ho u (by simp [hu])
          · simp at hu; subst hu; exact ⟨hv.1, hs.2⟩
        · rcases List.mem_append.1 hu with hu | hu
          · exact ho u hu
          · simp at hu; subst hu; exact hs

theorem takeL_len : ∀ (ps : List (Iv × Bool)) (out : List Iv), (takeL ps out).length ≤ out.length + ps.length
  | [], out => Nat.le_refl _
  | (s, b) :: ps, out => by
    rw [takeL]
    refine Nat.le_trans (takeL_len ps _) ?_
    rw [List.length_cons]
    have : (putL out s).length ≤ out.length + 1 := by
      rcases nil_or_snoc out with rfl | ⟨a, v, rfl⟩
      · simp [putL_nil]
      · rw [putL_snoc]; split <;> simp
    split <;> omega

/-! Intervals in the order of their beginnings, joined one by one. -/
def normStep (out : List Iv) (s : Iv) : List Iv :=
  match out.getLast? with
  | none => [s]
  | some t => if t.2 + 1 < s.1 then out ++ [s] else out.dropLast ++ [(t.1, max t.2 s.2)]

theorem normStep_nil (s : Iv) : normStep [] s = [s] := rfl
theorem normStep_snoc (l : List Iv) (t s : Iv) : normStep (l ++ [t]) s = if t.2 + 1 < s.1 then l ++ [t] ++ [s] else l ++ [(t.1, max t.2 s.2)] := by
  unfold normStep
  simp

theorem normStep_good {out : List Iv} {s : Iv} (h : Good out) (hs : s.1 ≤ s.2) (hl : ∀ t ∈ out, t.1 ≤ s.1) :
    Good (normStep out s) ∧ (∀ x, mem (normStep out s) x = (mem out x || (decide (s.1 ≤ x) && decide (x ≤ s.2)))) ∧ ∀ t ∈ normStep out s, t.1 ≤ s.1 := by
  rcases nil_or_snoc out with rfl | ⟨a, t, rfl⟩
  · refine ⟨hs, fun x => by rw [normStep_nil, mem_cons]; simp [mem_nil], ?_⟩
    intro t ht; simp [normStep_nil] at ht; subst ht; exact Nat.le_refl _
  · obtain ⟨h1, h2, h3⟩ := good_init h
    have ht := hl t (by simp)
    rw [normStep_snoc]
    by_cases e : t.2 + 1 < s.1
    · rw [if_pos e]
      refine ⟨good_snoc h hs ?_, fun x => by simp only [mem_append, mem_cons, mem_nil, Bool.or_false], ?_⟩
      · intro u hu
        rcases List.mem_append.1 hu with hu | hu
        · have := h3 u hu; omega
        · simp at hu; subst hu; exact e
      · intro u hu
        rcases List.mem_append.1 hu with hu | hu
        · exact hl u hu
        · simp at hu; subst hu; exact Nat.le_refl _
    · rw [if_neg e]
      refine ⟨good_widen h (by omega), fun x => ?_, ?_⟩
      · simp only [mem_append, mem_cons, mem_nil, Bool.or_false]
        rw [Bool.or_assoc]
        congr 1
        rw [Bool.eq_iff_iff]
        simp
        omega
      · intro u hu
        rcases List.mem_append.1 hu with hu | hu
        · exact hl u (by simp [hu])
        · simp at hu; subst hu; exact ht

def normL (l : List Iv) : List Iv := l.foldl normStep []

/-- In ascending order of the beginnings. -/
def AscLo (l : List Iv) : Prop := ∀ i j, i < j → j < l.length → (nthI l i).1 ≤ (nthI l j).1

theorem ascLo_tail {s : Iv} {l : List Iv} (h : AscLo (s :: l)) : AscLo l := fun i j hij hj => h (i + 1) (j + 1) (by omega) (by simpa using hj)
theorem ascLo_head {s : Iv} {l : List Iv} (h : AscLo (s :: l)) : ∀ t ∈ l, s.1 ≤ t.1 := by
  intro t ht
  obtain ⟨i, hi, rfl⟩ := List.getElem_of_mem ht
  have := h 0 (i + 1) (by omega) (by simpa using hi)
  rw [← nthI_get hi]
  exact this

theorem norm_fold : ∀ {l out : List Iv}, AscLo l → (∀ s ∈ l, s.1 ≤ s.2) → Good out → (∀ t ∈ out, ∀ s ∈ l, t.1 ≤ s.1) →
    Good (l.foldl normStep out) ∧ ∀ x, mem (l.foldl normStep out) x = (mem out x || mem l x)
  | [], out, _, _, hg, _ => ⟨hg, fun x => by simp [mem_nil]⟩
  | s :: l, out, ha, hs, hg, hl => by
    obtain ⟨g1, g2, g3⟩ := normStep_good hg (hs s (by simp)) (fun t ht => hl t ht s (by simp))
    obtain ⟨k1, k2⟩ := norm_fold (l := l) (out := normStep out s) (ascLo_tail ha) (fun u hu => hs u (List.mem_cons_of_mem _ hu)) g1 (fun t ht u hu => by
      have := g3 t ht; have := ascLo_head ha u hu; omega)
    refine ⟨k1, fun x => ?_⟩
    rw [List.foldl_cons, k2, g2, mem_cons, Bool.or_assoc]

theorem norm_good {l : List Iv} (ha : AscLo l) (hs : ∀ s ∈ l, s.1 ≤ s.2) : Good (normL l) ∧ ∀ x, mem (normL l) x = mem l x := by
  obtain ⟨h1, h2⟩ := norm_fold (out := []) ha hs trivial (by simp)
  exact ⟨h1, fun x => by rw [normL, h2, mem_nil, Bool.false_or]⟩

theorem mem_perm {l l' : List Iv} (h : l.Perm l') (x : Nat) : mem l x = mem l' x := by
  rw [Bool.eq_iff_iff, mem_iff, mem_iff]
  exact ⟨fun ⟨s, hs, h1⟩ => ⟨s, h.mem_iff.1 hs, h1⟩, fun ⟨s, hs, h1⟩ => ⟨s, h.mem_iff.2 hs, h1⟩⟩

theorem normStep_lt {out : List Iv} {s : Iv} (ho : ∀ t ∈ out, t.1 < 18446744073709551616 ∧ t.2 < 18446744073709551616) (hs : s.1 < 18446744073709551616 ∧ s.2 < 18446744073709551616) : ∀ t ∈ normStep out s, t.1 < 18446744073709551616 ∧ t.2 < 18446744073709551616 := by
  intro u hu
  rcases nil_or_snoc out with rfl | ⟨a, t, rfl⟩
  · simp [normStep_nil] at hu; subst hu; exact hs
  · have ht := ho t (by simp)
    rw [normStep_snoc] at hu
    split at hu
    · rcases List.mem_append.1 hu with hu | hu
      · exact ho u hu
      · simp at hu; subst hu; exact hs
    · rcases List.mem_append.1 hu with hu | hu
      · exact ho u (by simp [hu])
      · simp at hu; subst hu; exact ⟨ht.1, by simp only; omega⟩

end Go.Proofs.YtbiohohclnaocaaGreatDoor
