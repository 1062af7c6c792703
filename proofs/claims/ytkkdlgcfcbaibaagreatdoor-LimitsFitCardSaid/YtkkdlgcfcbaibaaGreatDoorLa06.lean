/- Walks and laws, joined: La06. -/
import Derived.Test.YtkkdlgcfcbaibaaGreatDoorLa03
import Derived.Test.YtkkdlgcfcbaibaaGreatDoorLa04
set_option linter.unusedVariables false
namespace Go.Proofs.YtkkdlgcfcbaibaaGreatDoor
section
def pcsL (f : Nat → Bool) : List Nat → List (Iv × Bool)
 | [] => []
 | [a] => [((a, 18446744073709551615), f a)]
 | a :: b :: r => ((a, b - 1), f a) :: pcsL f (b :: r)
theorem pcsL_len (f : Nat → Bool) : ∀ (l : List Nat), (pcsL f l).length = l.length
 | [] => rfl
 | [a] => rfl
 | a :: b :: r => by rw [pcsL, List.length_cons, pcsL_len f (b :: r)]; rfl
theorem pcsL_cover (f : Nat → Bool) : ∀ {a : Nat} {r : List Nat}, Asc (a :: r) → (∀ x ∈ a :: r, x < 18446744073709551616) → Cover 18446744073709551615 a (pcsL f (a :: r))
 | a, [], h, hl => ⟨rfl, by have := hl a (by simp); show a ≤ 18446744073709551615; omega, rfl⟩
 | a, [b], h, hl => by
   have h1 := h.1
   have h2 := hl b (by simp)
   refine ⟨rfl, ?_, ?_, ?_⟩
   · show a ≤ b - 1; omega
   · show b - 1 < 18446744073709551615; omega
   · show Cover _ (b - 1 + 1) (pcsL f [b])
     rw [show b - 1 + 1 = b by omega]
     exact pcsL_cover f (r := []) h.tail fun x hx => hl x (List.mem_cons_of_mem _ hx)
 | a, b :: c :: r, h, hl => by
   have h1 := h.1
   have h2 := hl b (by simp)
   refine ⟨rfl, ?_, ?_, ?_⟩
   · show a ≤ b - 1; omega
   · show b - 1 < 18446744073709551615; omega
   · show Cover _ (b - 1 + 1) (pcsL f (b :: c :: r))
     rw [show b - 1 + 1 = b by omega]
     exact pcsL_cover f (r := c :: r) h.tail fun x hx => hl x (List.mem_cons_of_mem _ hx)
theorem pcsL_any (f : Nat → Bool) : ∀ {a : Nat} {r : List Nat}, Asc (a :: r) → (∀ x ∈ a :: r, x < 18446744073709551616) →
 (∀ c x, a ≤ c → c ≤ x → x < 18446744073709551616 → (∀ y ∈ a :: r, ¬ (c < y ∧ y ≤ x)) → f x = f c) →
 ∀ x, a ≤ x → x < 18446744073709551616 → ((pcsL f (a :: r)).any fun p => p.2 && (decide (p.1.1 ≤ x) && decide (x ≤ p.1.2))) = f x
 | a, [], h, hl, hc, x, h1, h2 => by
   have := hc a x (Nat.le_refl _) h1 h2 (by intro y hy; simp at hy; subst hy; omega)
   simp [pcsL, this, h1, show x ≤ 18446744073709551615 by omega]
 | a, b :: r, h, hl, hc, x, h1, h2 => by
   have hab := h.1
   rw [pcsL, List.any_cons]
   by_cases hx : x < b
   · have e := hc a x (Nat.le_refl _) h1 h2 (by
      intro y hy
      rcases List.mem_cons.1 hy with rfl | hy
      · omega
      · rcases List.mem_cons.1 hy with rfl | hy
        · omega
        · have := h.tail.lower y hy; omega)
     have rest : ((pcsL f (b :: r)).any fun p => p.2 && (decide (p.1.1 ≤ x) && decide (x ≤ p.1.2))) = false := by
      have lo : ∀ {b : Nat} {r : List Nat}, Asc (b :: r) → ∀ p ∈ pcsL f (b :: r), b ≤ p.1.1 := by
       intro b r
       induction r generalizing b with
       | nil => intro _ p hp; simp [pcsL] at hp; subst hp; exact Nat.le_refl _
       | cons c r ih =>
        intro hA p hp
        rw [pcsL] at hp
        rcases List.mem_cons.1 hp with rfl | hp
        · exact Nat.le_refl _
        · have := ih hA.tail p hp
          have := hA.1
          omega
      rw [List.any_eq_false]
      intro p hp
      have := lo h.tail p hp
      simp
      omega
     rw [rest, Bool.or_false, e]
     simp [h1, show x ≤ b - 1 by omega]
   · have ih := pcsL_any f h.tail (fun y hy => hl y (List.mem_cons_of_mem _ hy)) (by
      intro c z hc1 hc2 hc3 hc4
      refine hc c z (by omega) hc2 hc3 ?_
      intro y hy
      rcases List.mem_cons.1 hy with rfl | hy
      · omega
      · exact hc4 y hy) x (by omega) h2
     rw [ih]
     have : decide (x ≤ b - 1) = false := by rw [decide_eq_false_iff_not]; omega
     simp [this]
theorem pcsL_top (f : Nat → Bool) : ∀ {l : List Nat}, (∀ x ∈ l, x < 18446744073709551616) → ∀ p ∈ pcsL f l, p.1.2 < 18446744073709551616
 | [], _, p, hp => by simp [pcsL] at hp
 | [a], _, p, hp => by simp [pcsL] at hp; subst hp; simp
 | a :: b :: r, h, p, hp => by
   rw [pcsL] at hp
   rcases List.mem_cons.1 hp with rfl | hp
   · have := h b (by simp); simp only; omega
   · exact pcsL_top f (fun x hx => h x (List.mem_cons_of_mem _ hx)) p hp
theorem do_good {f : Nat → Bool} {L : List Nat} (h : Asc L) (hl : ∀ x ∈ L, x < 18446744073709551616) (h0 : 0 ∈ L)
 (hc : ∀ c x, c ≤ x → x < 18446744073709551616 → (∀ y ∈ L, ¬ (c < y ∧ y ≤ x)) → f x = f c) (ht : ∀ x, 18446744073709551616 ≤ x → f x = false) :
 Good (takeL (pcsL f L) []) ∧ ∀ x, mem (takeL (pcsL f L) []) x = f x := by
 cases L with
 | nil => simp at h0
 | cons a r =>
  have ha : a = 0 := by
   rcases List.mem_cons.1 h0 with e | e
   · exact e.symm
   · have := h.lower 0 e; omega
  subst ha
  obtain ⟨g1, g2⟩ := takeL_good (out := []) (pcsL_cover f h hl) trivial (by simp)
  refine ⟨g1, fun x => ?_⟩
  rw [g2, mem_nil, Bool.false_or]
  by_cases hx : x < 18446744073709551616
  · exact pcsL_any f h hl (fun c z _ => hc c z) x (Nat.zero_le _) hx
  · rw [ht x (by omega), List.any_eq_false]
    intro p hp
    have := pcsL_top f hl p hp
    simp
    omega
theorem mem_const {l : List Iv} (hl : ∀ t ∈ l, t.1 < 18446744073709551616 ∧ t.2 < 18446744073709551616) {c x : Nat} (hcx : c ≤ x) (hx : x < 18446744073709551616) (h : ∀ y ∈ bnds l, ¬ (c < y ∧ y ≤ x)) : mem l x = mem l c := by
 have hb : ∀ s ∈ l, ∀ y ∈ bnd s, y ∈ bnds l := fun s hs y hy => List.mem_flatMap.2 ⟨s, hs, hy⟩
 rw [Bool.eq_iff_iff, mem_iff, mem_iff]
 constructor
 · rintro ⟨s, hs, h1, h2⟩
   refine ⟨s, hs, ?_, by omega⟩
   have := h s.1 (hb s hs s.1 (by simp [bnd]))
   omega
 · rintro ⟨s, hs, h1, h2⟩
   refine ⟨s, hs, by omega, ?_⟩
   refine Nat.le_of_not_lt fun hlt => ?_
   have := h (s.2 + 1) (hb s hs _ (by unfold bnd; rw [if_pos (by omega)]; simp))
   omega
theorem mem_top {l : List Iv} (hl : ∀ t ∈ l, t.1 < 18446744073709551616 ∧ t.2 < 18446744073709551616) {x : Nat} (hx : 18446744073709551616 ≤ x) : mem l x = false := by
 rw [mem_false]
 intro s hs
 have := hl s hs
 omega
theorem bnds_lt {l : List Iv} (hl : ∀ t ∈ l, t.1 < 18446744073709551616 ∧ t.2 < 18446744073709551616) : ∀ y ∈ bnds l, y < 18446744073709551616 := by
 intro y hy
 obtain ⟨s, hs, hy⟩ := List.mem_flatMap.1 hy
 have := hl s hs
 unfold bnd at hy
 split at hy <;> simp at hy <;> omega
theorem takeL_append : ∀ (a b : List (Iv × Bool)) (out : List Iv), takeL (a ++ b) out = takeL b (takeL a out)
 | [], b, out => rfl
 | (s, t) :: a, b, out => by rw [List.cons_append, takeL, takeL, takeL_append a b]
theorem pcsL_get (f : Nat → Bool) : ∀ {l : List Nat} {i : Nat}, i < l.length → (pcsL f l)[i]? = some ((if i + 1 < l.length then (nth l i, nth l (i + 1) - 1) else (nth l i, 18446744073709551615)), f (nth l i))
 | [], i, h => by simp at h
 | [a], i, h => by
   have : i = 0 := by simpa using h
   subst this
   simp [pcsL, nth]
 | a :: b :: r, 0, h => by simp [pcsL, nth]
 | a :: b :: r, i + 1, h => by
   have := pcsL_get f (l := b :: r) (i := i) (by simpa using h)
   rw [pcsL, List.getElem?_cons_succ, this]
   have e1 : nth (a :: b :: r) (i + 1) = nth (b :: r) i := rfl
   have e2 : nth (a :: b :: r) (i + 1 + 1) = nth (b :: r) (i + 1) := rfl
   rw [e1, e2]
   simp only [List.length_cons, Nat.add_lt_add_iff_right]
theorem takeL_lt : ∀ {ps : List (Iv × Bool)} {out : List Iv}, (∀ p ∈ ps, p.1.1 < 18446744073709551616 ∧ p.1.2 < 18446744073709551616) → (∀ t ∈ out, t.1 < 18446744073709551616 ∧ t.2 < 18446744073709551616) → ∀ t ∈ takeL ps out, t.1 < 18446744073709551616 ∧ t.2 < 18446744073709551616
 | [], out, _, ho, t, ht => ho t ht
 | (s, b) :: ps, out, h, ho, t, ht => by
   rw [takeL] at ht
   refine takeL_lt (fun p hp => h p (List.mem_cons_of_mem _ hp)) ?_ t ht
   have hs := h _ (List.mem_cons_self ..)
   simp only at hs
   cases b with
   | false => exact ho
   | true =>
    intro u hu
    rw [if_pos rfl] at hu
    rcases nil_or_snoc out with rfl | ⟨a, v, rfl⟩
    · simp [putL_nil] at hu; subst hu; exact hs
    · have hv := ho v (by simp)
      rw [putL_snoc] at hu
      split at hu
      · rcases List.mem_append.1 hu with hu | hu
        · exact ho u (by simp [hu])
        · simp at hu; subst hu; exact ⟨hv.1, hs.2⟩
      · rcases List.mem_append.1 hu with hu | hu
        · exact ho u hu
        · simp at hu; subst hu; exact hs
theorem takeL_len : ∀ (ps : List (Iv × Bool)) (out : List Iv), (takeL ps out).length ≤ out.length + ps.length
 | [], out => Nat.le_refl _
 | (s, b) :: ps, out => by
   rw [takeL]
   refine Nat.le_trans (takeL_len ps _) ?_
   rw [List.length_cons]
   have : (putL out s).length ≤ out.length + 1 := by
    rcases nil_or_snoc out with rfl | ⟨a, v, rfl⟩
    · simp [putL_nil]
    · rw [putL_snoc]; split <;> simp
   split <;> omega
def AscLo (l : List Iv) : Prop := ∀ i j, i < j → j < l.length → (nthI l i).1 ≤ (nthI l j).1
theorem pcsL_piece (f : Nat → Bool) {L : List Nat} {i : Nat} (h : i < L.length) : (pcsL f L)[i]? = some (pieceOf L i, f (nth L i)) := by
 rw [pcsL_get f h]
 unfold pieceOf
 rfl
theorem takeL_step (f : Nat → Bool) {L : List Nat} {k : Nat} (h : k < L.length) :
 takeL ((pcsL f L).take (k + 1)) [] = if f (nth L k) = true then putL (takeL ((pcsL f L).take k) []) (pieceOf L k) else takeL ((pcsL f L).take k) [] := by
 have hk : k < (pcsL f L).length := by rw [pcsL_len]; exact h
 have e := pcsL_piece f h
 rw [List.getElem?_eq_getElem hk] at e
 have e' : (pcsL f L)[k] = (pieceOf L k, f (nth L k)) := by simpa using e
 rw [List.take_succ_eq_append_getElem hk, takeL_append, e', takeL]
 rfl
theorem pieceOf_lt {L : List Nat} {k : Nat} (h : k < L.length) (hl : ∀ x ∈ L, x < 18446744073709551616) : (pieceOf L k).1 < 18446744073709551616 ∧ (pieceOf L k).2 < 18446744073709551616 := by
 have h1 := hl _ (nth_mem h)
 unfold pieceOf
 split
 · rename_i h2
   have := hl _ (nth_mem h2)
   exact ⟨h1, by simp only; omega⟩
 · exact ⟨h1, by simp only; omega⟩
theorem pcsL_lt (f : Nat → Bool) {L : List Nat} (hl : ∀ x ∈ L, x < 18446744073709551616) (k : Nat) : ∀ p ∈ (pcsL f L).take k, p.1.1 < 18446744073709551616 ∧ p.1.2 < 18446744073709551616 := by
 intro p hp
 obtain ⟨i, hi, rfl⟩ := List.getElem_of_mem (List.mem_of_mem_take hp)
 rw [pcsL_len] at hi
 have e := pcsL_piece f hi
 rw [List.getElem?_eq_getElem (by rw [pcsL_len]; exact hi)] at e
 have e' : (pcsL f L)[i]'(by rw [pcsL_len]; exact hi) = (pieceOf L i, f (nth L i)) := by simpa using e
 rw [e']
 exact pieceOf_lt hi hl
abbrev Ent := Nat × Nat × List Iv
abbrev Vec := List Ent
abbrev Frg := List Iv × Vec
abbrev Kno := List Frg
abbrev Lt64 (l : List Iv) : Prop := ∀ t ∈ l, t.1 < 18446744073709551616 ∧ t.2 < 18446744073709551616
def insA : List Nat → Nat → List Nat
 | [], x => [x]
 | a :: l, x => if x < a then x :: a :: l else if x = a then a :: l else a :: insA l x
theorem insA_mem : ∀ {l : List Nat} {x y : Nat}, y ∈ insA l x ↔ y ∈ l ∨ y = x
 | [], x, y => by simp [insA]
 | a :: l, x, y => by
   rw [insA]
   split
   · simp only [List.mem_cons]
     constructor
     · rintro (h | h | h)
       · exact .inr h
       · exact .inl (.inl h)
       · exact .inl (.inr h)
     · rintro ((h | h) | h)
       · exact .inr (.inl h)
       · exact .inr (.inr h)
       · exact .inl h
   · split
     · rename_i h; subst h; simp only [List.mem_cons]
       constructor
       · exact .inl
       · rintro (h | h)
         · exact h
         · exact .inl h
     · simp only [List.mem_cons, insA_mem (l := l)]
       constructor
       · rintro (h | h | h)
         · exact .inl (.inl h)
         · exact .inl (.inr h)
         · exact .inr h
       · rintro ((h | h) | h)
         · exact .inl h
         · exact .inr (.inl h)
         · exact .inr (.inr h)
theorem insA_asc : ∀ {l : List Nat} {x : Nat}, Asc l → Asc (insA l x)
 | [], x, _ => trivial
 | a :: l, x, h => by
   rw [insA]
   split
   · rename_i hx
     exact asc_cons (fun y hy => by
      rcases List.mem_cons.1 hy with rfl | hy
      · exact hx
      · have := h.lower y hy; omega) h
   · split
     · exact h
     · refine asc_cons (fun y hy => ?_) (insA_asc h.tail)
       rcases insA_mem.1 hy with hy | rfl
       · exact h.lower y hy
       · omega
def sortA (l : List Nat) : List Nat := l.foldl insA []
theorem fold_insA : ∀ {l acc : List Nat}, Asc acc → Asc (l.foldl insA acc) ∧ ∀ y, y ∈ l.foldl insA acc ↔ y ∈ acc ∨ y ∈ l
 | [], acc, h => ⟨h, fun y => by simp⟩
 | x :: l, acc, h => by
   obtain ⟨h1, h2⟩ := fold_insA (l := l) (insA_asc (x := x) h)
   refine ⟨h1, fun y => ?_⟩
   rw [List.foldl_cons, h2, insA_mem, List.mem_cons, or_assoc]
theorem sortA_asc (l : List Nat) : Asc (sortA l) := (fold_insA (acc := []) trivial).1
theorem sortA_mem (l : List Nat) (y : Nat) : y ∈ sortA l ↔ y ∈ l := by
 have := (fold_insA (l := l) (acc := []) trivial).2 y
 unfold sortA
 simpa using this
theorem sortA_eq {l L : List Nat} (h : Asc L) (hm : ∀ y, y ∈ L ↔ y ∈ l) : L = sortA l := asc_ext h (sortA_asc l) fun y => (hm y).trans (sortA_mem l y).symm
def opL (g : Bool → Bool → Bool) (a b : List Iv) : List Iv := takeL (pcsL (fun x => g (mem a x) (mem b x)) (sortA (allL [a, b]))) []
theorem allL_two (a b : List Iv) (y : Nat) : y ∈ allL [a, b] ↔ y = 0 ∨ y ∈ bnds a ∨ y ∈ bnds b := by simp [allL]
theorem opL_good {g : Bool → Bool → Bool} {a b : List Iv} (ha : Lt64 a) (hb : Lt64 b) (h0 : g false false = false) :
 Good (opL g a b) ∧ (∀ x, mem (opL g a b) x = g (mem a x) (mem b x)) ∧ Lt64 (opL g a b) := by
 have hS := sortA_mem (allL [a, b])
 have hl : ∀ x ∈ sortA (allL [a, b]), x < 18446744073709551616 := fun x hx => by
  rcases (allL_two a b x).1 ((hS x).1 hx) with rfl | h | h
  · omega
  · exact bnds_lt ha x h
  · exact bnds_lt hb x h
 obtain ⟨h1, h2⟩ := do_good (f := fun x => g (mem a x) (mem b x)) (sortA_asc (allL [a, b])) hl ((hS 0).2 (by simp [allL])) (fun c x hcx hx h => by
  have e1 : mem a x = mem a c := mem_const ha hcx hx fun y hy => h y ((hS y).2 ((allL_two a b y).2 (.inr (.inl hy))))
  have e2 : mem b x = mem b c := mem_const hb hcx hx fun y hy => h y ((hS y).2 ((allL_two a b y).2 (.inr (.inr hy))))
  simp only [e1, e2]) (fun x hx => by simp only [mem_top ha hx, mem_top hb hx, h0])
 refine ⟨h1, h2, takeL_lt (fun p hp => ?_) (by simp)⟩
 obtain ⟨i, hi, rfl⟩ := List.getElem_of_mem hp
 rw [pcsL_len] at hi
 have e := pcsL_get (fun x => g (mem a x) (mem b x)) hi
 rw [List.getElem?_eq_getElem (by rw [pcsL_len]; exact hi)] at e
 have e' := Option.some.inj e
 rw [e']
 have hn := hl _ (nth_mem hi)
 split
 · rename_i h2
   have := hl _ (nth_mem h2)
   exact ⟨hn, by simp only; omega⟩
 · exact ⟨hn, by simp only; omega⟩
theorem opL_unique {g : Bool → Bool → Bool} {a b L : List Iv} (ha : Lt64 a) (hb : Lt64 b) (h0 : g false false = false) (hG : Good L) (hm : ∀ x, mem L x = g (mem a x) (mem b x)) : L = opL g a b :=
 good_ext hG (opL_good ha hb h0).1 fun x => by rw [hm, (opL_good ha hb h0).2.1]
def gOr (a b : Bool) : Bool := a || b
def gAnd (a b : Bool) : Bool := a && b
def gSub (a b : Bool) : Bool := a && !b
def knownL (e : Ent) : List Iv := opL gSub [(0, e.2.1)] e.2.2
def topL (L : List Iv) : Nat := match L.getLast? with | some t => t.2 | none => 0
def ofE (r : Nat) (L : List Iv) : Option Ent := if L = [] then none else some (r, topL L, opL gSub [(0, topL L)] L)
structure LtE (e : Ent) : Prop where
 rep : e.1 < 18446744073709551616
 max : e.2.1 < 18446744073709551616
 holes : Lt64 e.2.2
theorem lt64_one {a b : Nat} (ha : a < 18446744073709551616) (hb : b < 18446744073709551616) : Lt64 [(a, b)] := by
 intro t ht
 simp at ht
 subst ht
 exact ⟨ha, hb⟩
theorem knownL_good {e : Ent} (h : LtE e) : Good (knownL e) ∧ (∀ c, mem (knownL e) c = (decide (c ≤ e.2.1) && !mem e.2.2 c)) ∧ Lt64 (knownL e) := by
 obtain ⟨h1, h2, h3⟩ := opL_good (g := gSub) (lt64_one (a := 0) (by omega) h.max) h.holes rfl
 refine ⟨h1, fun c => ?_, h3⟩
 unfold knownL
 rw [h2]
 simp [gSub, mem]
theorem mem_topL {L : List Iv} (h : Good L) (hne : L ≠ []) : mem L (topL L) = true ∧ ∀ c, mem L c = true → c ≤ topL L := by
 rcases nil_or_snoc L with rfl | ⟨l, t, rfl⟩
 · exact absurd rfl hne
 · obtain ⟨h1, h2, h3⟩ := good_init h
   have e : topL (l ++ [t]) = t.2 := by simp [topL]
   rw [e]
   refine ⟨mem_iff.2 ⟨t, by simp, h2, Nat.le_refl _⟩, fun c hc => ?_⟩
   obtain ⟨s, hs, k1, k2⟩ := mem_iff.1 hc
   rcases List.mem_append.1 hs with hs | hs
   · have := h3 s hs; omega
   · simp at hs; subst hs; exact k2
structure CanE (e : Ent) : Prop where
 good : Good e.2.2
 below : ∀ s ∈ e.2.2, s.2 ≤ e.2.1
 top : mem e.2.2 e.2.1 = false
theorem topL_lt {L : List Iv} (hl : Lt64 L) : topL L < 18446744073709551616 := by
 rcases nil_or_snoc L with rfl | ⟨l, t, rfl⟩
 · simp [topL]
 · have e : topL (l ++ [t]) = t.2 := by simp [topL]
   rw [e]
   exact (hl t (by simp)).2
theorem mem_last {L : List Iv} (h : Good L) {s : Iv} (hs : s ∈ L) : mem L s.2 = true ∧ s.1 ≤ s.2 := by
 obtain ⟨i, hi, rfl⟩ := List.getElem_of_mem hs
 have := good_idx h i hi
 rw [nthI_get hi] at this
 exact ⟨mem_iff.2 ⟨_, List.getElem_mem hi, this.1, Nat.le_refl _⟩, this.1⟩
theorem ofE_can {r : Nat} {L : List Iv} (hG : Good L) (hl : Lt64 L) (hne : L ≠ []) : ∃ e, ofE r L = some e ∧ e.1 = r ∧ CanE e ∧ Lt64 e.2.2 ∧ e.2.1 < 18446744073709551616 ∧ ∀ c, (decide (c ≤ e.2.1) && !mem e.2.2 c) = mem L c := by
 have ht := topL_lt hl
 obtain ⟨h1, h2, h3⟩ := opL_good (g := gSub) (lt64_one (a := 0) (by omega) ht) hl rfl
 obtain ⟨t1, t2⟩ := mem_topL hG hne
 refine ⟨(r, topL L, opL gSub [(0, topL L)] L), by unfold ofE; rw [if_neg hne], rfl, ⟨h1, fun s hs => ?_, ?_⟩, h3, ht, fun c => ?_⟩
 · have := (mem_last h1 hs).1
   rw [h2] at this
   simp [gSub, mem] at this
   exact this.1
 · show mem (opL gSub [(0, topL L)] L) (topL L) = false
   rw [h2, t1]; simp [gSub]
 · show (decide (c ≤ topL L) && !mem (opL gSub [(0, topL L)] L) c) = mem L c
   rw [h2]
   have em : mem [(0, topL L)] c = decide (c ≤ topL L) := by simp [mem]
   rw [em]
   by_cases hc : mem L c = true
   · have hle : decide (c ≤ topL L) = true := decide_eq_true (t2 c hc)
     rw [hc, hle]; rfl
   · have hc' : mem L c = false := by simpa using hc
     rw [hc']
     cases decide (c ≤ topL L) <;> rfl
theorem canE_ext {e e' : Ent} (h : CanE e) (h' : CanE e') (hr : e.1 = e'.1) (hk : ∀ c, (decide (c ≤ e.2.1) && !mem e.2.2 c) = (decide (c ≤ e'.2.1) && !mem e'.2.2 c)) : e = e' := by
 have k1 := hk e.2.1
 rw [h.top] at k1
 simp at k1
 have k2 := hk e'.2.1
 rw [h'.top] at k2
 simp at k2
 have hm : e.2.1 = e'.2.1 := by omega
 have hh : e.2.2 = e'.2.2 := good_ext h.good h'.good fun x => by
  by_cases hx : x ≤ e.2.1
  · have := hk x
    rw [← hm] at this
    simp [hx] at this
    cases hA : mem e.2.2 x <;> cases hB : mem e'.2.2 x <;> simp_all
  · have n1 : mem e.2.2 x = false := by
     rw [mem_false]
     intro s hs hsx
     have := h.below s hs
     omega
    have n2 : mem e'.2.2 x = false := by
     rw [mem_false]
     intro s hs hsx
     have := h'.below s hs
     omega
    rw [n1, n2]
 obtain ⟨r, m, hs⟩ := e
 obtain ⟨r', m', hs'⟩ := e'
 simp only at hr hm hh
 rw [hr, hm, hh]
def nextL : List Iv → Nat → Option Nat
 | [], _ => none
 | s :: l, x => if x < s.1 then some s.1 else if s.2 < 18446744073709551615 ∧ x < s.2 + 1 then some (s.2 + 1) else nextL l x
theorem bnds_cons (s : Iv) (l : List Iv) : bnds (s :: l) = bnd s ++ bnds l := rfl
theorem mem_bnd {s : Iv} {z : Nat} : z ∈ bnd s ↔ z = s.1 ∨ (s.2 < 18446744073709551615 ∧ z = s.2 + 1) := by
 unfold bnd
 split
 · rename_i h; simp [h]
 · rename_i h; simp [h]
theorem bnds_ge {s : Iv} {l : List Iv} (h : Good (s :: l)) : ∀ z ∈ bnds l, s.2 + 1 < z := by
 intro z hz
 obtain ⟨t, ht, hz⟩ := List.mem_flatMap.1 hz
 have h1 := h.lower t ht
 have h2 := h.tail.ok t ht
 rcases mem_bnd.1 hz with rfl | ⟨_, rfl⟩ <;> omega
theorem nextL_some : ∀ {l : List Iv} {x y : Nat}, Good l → nextL l x = some y → x < y ∧ y ∈ bnds l ∧ ∀ z ∈ bnds l, x < z → y ≤ z
 | [], x, y, _, h => by simp [nextL] at h
 | s :: l, x, y, hG, h => by
   have hs := hG.head
   have hge := bnds_ge hG
   rw [nextL] at h
   by_cases h1 : x < s.1
   · rw [if_pos h1] at h
     cases h
     refine ⟨h1, by rw [bnds_cons]; exact List.mem_append_left _ (mem_bnd.2 (.inl rfl)), fun z hz _ => ?_⟩
     rcases List.mem_append.1 hz with hz | hz
     · rcases mem_bnd.1 hz with rfl | ⟨_, rfl⟩ <;> omega
     · have := hge z hz; omega
   · rw [if_neg h1] at h
     by_cases h2 : s.2 < 18446744073709551615 ∧ x < s.2 + 1
     · rw [if_pos h2] at h
       cases h
       refine ⟨h2.2, by rw [bnds_cons]; exact List.mem_append_left _ (mem_bnd.2 (.inr ⟨h2.1, rfl⟩)), fun z hz hx => ?_⟩
       rcases List.mem_append.1 hz with hz | hz
       · rcases mem_bnd.1 hz with rfl | ⟨_, rfl⟩ <;> omega
       · have := hge z hz; omega
     · rw [if_neg h2] at h
       obtain ⟨k1, k2, k3⟩ := nextL_some hG.tail h
       refine ⟨k1, by rw [bnds_cons]; exact List.mem_append_right _ k2, fun z hz hx => ?_⟩
       rcases List.mem_append.1 hz with hz | hz
       · rcases mem_bnd.1 hz with rfl | ⟨_, rfl⟩ <;> omega
       · exact k3 z hz hx
theorem nextL_none : ∀ {l : List Iv} {x : Nat}, nextL l x = none → ∀ z ∈ bnds l, z ≤ x
 | [], x, _, z, hz => by simp [bnds] at hz
 | s :: l, x, h, z, hz => by
   rw [nextL] at h
   by_cases h1 : x < s.1
   · rw [if_pos h1] at h; cases h
   · rw [if_neg h1] at h
     by_cases h2 : s.2 < 18446744073709551615 ∧ x < s.2 + 1
     · rw [if_pos h2] at h; cases h
     · rw [if_neg h2] at h
       rcases List.mem_append.1 hz with hz | hz
       · rcases mem_bnd.1 hz with rfl | ⟨_, rfl⟩ <;> omega
       · exact nextL_none h z hz
def dropL : List Iv → Nat → List Iv
 | [], _ => []
 | s :: l, x => if s.2 < x then dropL l x else s :: l
theorem dropL_zero : ∀ (l : List Iv), dropL l 0 = l
 | [] => rfl
 | s :: l => by rw [dropL, if_neg (by omega)]
theorem dropL_drop : ∀ {l : List Iv} {x y : Nat}, x ≤ y → dropL (dropL l x) y = dropL l y
 | [], _, _, _ => rfl
 | s :: l, x, y, h => by
   by_cases h1 : s.2 < x
   · have e : dropL (s :: l) x = dropL l x := by rw [dropL, if_pos h1]
     rw [e, dropL_drop h, dropL, if_pos (by omega)]
   · have e : dropL (s :: l) x = s :: l := by rw [dropL, if_neg h1]
     rw [e]
theorem dropL_good : ∀ {l : List Iv} {x : Nat}, Good l → Good (dropL l x)
 | [], _, h => h
 | s :: l, x, h => by
   rw [dropL]
   split
   · exact dropL_good h.tail
   · exact h
theorem dropL_mem : ∀ {l : List Iv} {x y : Nat}, x ≤ y → mem (dropL l x) y = mem l y
 | [], _, _, _ => rfl
 | s :: l, x, y, h => by
   rw [dropL]
   split
   · rename_i h1
     rw [dropL_mem h, mem_cons]
     have : decide (y ≤ s.2) = false := decide_eq_false (by omega)
     rw [this]; simp
   · rfl
theorem dropL_head {l : List Iv} {x : Nat} {s : Iv} {r : List Iv} (h : dropL l x = s :: r) : x ≤ s.2 := by
 induction l with
 | nil => cases h
 | cons t l ih =>
  rw [dropL] at h
  split at h
  · exact ih h
  · cases h; omega
theorem dropL_bnds : ∀ {l : List Iv} {x : Nat}, Good l → ∀ z, x < z → (z ∈ bnds (dropL l x) ↔ z ∈ bnds l)
 | [], _, _, _, _ => Iff.rfl
 | s :: l, x, hG, z, hz => by
   rw [dropL]
   split
   · rename_i h1
     have := hG.head
     rw [dropL_bnds hG.tail z hz, bnds_cons, List.mem_append, mem_bnd]
     constructor
     · exact .inr
     · rintro ((rfl | ⟨_, rfl⟩) | h)
       · omega
       · omega
       · exact h
   · exact Iff.rfl
def headL (l : List Iv) (x : Nat) : Bool := match l with | [] => false | s :: _ => decide (s.1 ≤ x)
theorem headL_mem {l : List Iv} {x : Nat} (hG : Good l) : headL (dropL l x) x = mem l x := by
 rw [← dropL_mem (Nat.le_refl x)]
 have hg := dropL_good (x := x) hG
 cases h : dropL l x with
 | nil => rfl
 | cons s r =>
  have h1 := dropL_head h
  rw [h] at hg
  show decide (s.1 ≤ x) = mem (s :: r) x
  rw [mem_cons]
  have h2 : decide (x ≤ s.2) = true := decide_eq_true h1
  rw [h2, Bool.and_true]
  by_cases h3 : s.1 ≤ x
  · rw [decide_eq_true h3]; rfl
  · rw [decide_eq_false h3]
    have h4 : mem r x = false := by
     rw [mem_false]
     intro t ht htx
     have := hg.lower t ht
     have := hg.head
     omega
    rw [h4]; rfl
abbrev Pc := Iv × (Bool × Bool)
def nextT (a b : List Iv) (x : Nat) : Option Nat :=
 match nextL a x, nextL b x with
 | none, v => v
 | some u, none => some u
 | some u, some v => if v < u then some v else some u
def pieceT (a b : List Iv) (x : Nat) : Pc := ((x, match nextT (dropL a x) (dropL b x) x with | some y => y - 1 | none => 18446744073709551615), (mem a x, mem b x))
def Chn (a b : List Iv) : Nat → List Pc → Nat → Prop
 | x, [], y => x = y
 | x, p :: ps, y => p.1.1 = x ∧ x ≤ p.1.2 ∧ p.1.2 < 18446744073709551616 ∧ x ∈ allL [a, b] ∧ (∀ z, x ≤ z → z ≤ p.1.2 → mem a z = p.2.1 ∧ mem b z = p.2.2) ∧ Chn a b (p.1.2 + 1) ps y
theorem chn_snoc {a b : List Iv} : ∀ {x : Nat} {ps : List Pc} {y : Nat} {p : Pc}, Chn a b x ps y → p.1.1 = y → y ≤ p.1.2 → p.1.2 < 18446744073709551616 → y ∈ allL [a, b] → (∀ z, y ≤ z → z ≤ p.1.2 → mem a z = p.2.1 ∧ mem b z = p.2.2) → Chn a b x (ps ++ [p]) (p.1.2 + 1)
 | x, [], y, p, h, h1, h2, h3, h4, h5 => by
   obtain rfl : x = y := h
   exact ⟨h1, h2, h3, h4, h5, rfl⟩
 | x, q :: ps, y, p, h, h1, h2, h3, h4, h5 => by
   obtain ⟨k1, k2, k3, k4, k5, k6⟩ := h
   exact ⟨k1, k2, k3, k4, k5, chn_snoc k6 h1 h2 h3 h4 h5⟩
theorem chn_init {a b : List Iv} : ∀ {x : Nat} {ps : List Pc} {y : Nat} {p : Pc}, Chn a b x (ps ++ [p]) y → Chn a b x ps p.1.1 ∧ p.1.1 ≤ p.1.2 ∧ p.1.2 < 18446744073709551616 ∧ p.1.1 ∈ allL [a, b] ∧ (∀ z, p.1.1 ≤ z → z ≤ p.1.2 → mem a z = p.2.1 ∧ mem b z = p.2.2) ∧ y = p.1.2 + 1
 | x, [], y, p, h => by
   obtain ⟨rfl, h2, h3, h4, h5, h6⟩ := h
   exact ⟨rfl, h2, h3, h4, h5, h6.symm⟩
 | x, q :: ps, y, p, h => by
   obtain ⟨k1, k2, k3, k4, k5, k6⟩ := h
   obtain ⟨l1, l2, l3, l4, l5, l6⟩ := chn_init k6
   exact ⟨⟨k1, k2, k3, k4, k5, l1⟩, l2, l3, l4, l5, l6⟩
theorem chn_starts {a b : List Iv} : ∀ {x : Nat} {ps : List Pc} {y : Nat}, Chn a b x ps y → Asc (ps.map (·.1.1)) ∧ (∀ z ∈ ps.map (·.1.1), x ≤ z ∧ z ∈ allL [a, b])
 | x, [], y, h => ⟨trivial, by simp⟩
 | x, q :: ps, y, h => by
   obtain ⟨k1, k2, k3, k4, k5, k6⟩ := h
   obtain ⟨h1, h2⟩ := chn_starts k6
   rw [List.map_cons]
   refine ⟨asc_cons (fun z hz => by have := (h2 z hz).1; omega) h1, fun z hz => ?_⟩
   rcases List.mem_cons.1 hz with rfl | hz
   · exact ⟨by omega, by rw [k1]; exact k4⟩
   · exact ⟨by have := (h2 z hz).1; omega, (h2 z hz).2⟩
theorem chn_len {a b : List Iv} {x : Nat} {ps : List Pc} {y : Nat} (h : Chn a b x ps y) : ps.length ≤ 2 * a.length + 2 * b.length + 1 := by
 obtain ⟨h1, h2⟩ := chn_starts h
 have h3 := asc_len h1 fun z hz => (h2 z hz).2
 rw [List.length_map] at h3
 have h4 := bnds_len a
 have h5 := bnds_len b
 simp [allL] at h3
 omega
theorem chn_piece {a b : List Iv} (ha : Lt64 a) (hb : Lt64 b) (ga : Good a) (gb : Good b) {ps : List Pc} {x : Nat} (h : Chn a b 0 ps x) (hx : x < 18446744073709551616) (hm : x ∈ allL [a, b]) :
 Chn a b 0 (ps ++ [pieceT a b x]) ((pieceT a b x).1.2 + 1) ∧
 (∀ y, nextT (dropL a x) (dropL b x) x = some y → x < y ∧ y < 18446744073709551616 ∧ (pieceT a b x).1.2 + 1 = y ∧ y ∈ allL [a, b]) := by
 have hA := dropL_bnds (x := x) ga
 have hB := dropL_bnds (x := x) gb
 have key : ∀ y, nextT (dropL a x) (dropL b x) x = some y → x < y ∧ (y ∈ bnds a ∨ y ∈ bnds b) ∧ ∀ z, z ∈ bnds a ∨ z ∈ bnds b → x < z → y ≤ z := by
  intro y hy
  unfold nextT at hy
  cases h1 : nextL (dropL a x) x with
  | none =>
   have n1 := nextL_none h1
   rw [h1] at hy
   simp only at hy
   obtain ⟨s1, s2, s3⟩ := nextL_some (dropL_good gb) hy
   refine ⟨s1, .inr ((hB y s1).1 s2), fun z hz hxz => ?_⟩
   rcases hz with hz | hz
   · have := n1 z ((hA z hxz).2 hz); omega
   · exact s3 z ((hB z hxz).2 hz) hxz
  | some u =>
   obtain ⟨r1, r2, r3⟩ := nextL_some (dropL_good ga) h1
   cases h2 : nextL (dropL b x) x with
   | none =>
    have n2 := nextL_none h2
    rw [h1, h2] at hy
    simp only at hy
    cases hy
    refine ⟨r1, .inl ((hA _ r1).1 r2), fun z hz hxz => ?_⟩
    rcases hz with hz | hz
    · exact r3 z ((hA z hxz).2 hz) hxz
    · have := n2 z ((hB z hxz).2 hz); omega
   | some v =>
    obtain ⟨s1, s2, s3⟩ := nextL_some (dropL_good gb) h2
    rw [h1, h2] at hy
    simp only at hy
    by_cases hvu : v < u
    · rw [if_pos hvu] at hy
      cases hy
      refine ⟨s1, .inr ((hB _ s1).1 s2), fun z hz hxz => ?_⟩
      rcases hz with hz | hz
      · have := r3 z ((hA z hxz).2 hz) hxz; omega
      · exact s3 z ((hB z hxz).2 hz) hxz
    · rw [if_neg hvu] at hy
      cases hy
      refine ⟨r1, .inl ((hA _ r1).1 r2), fun z hz hxz => ?_⟩
      rcases hz with hz | hz
      · exact r3 z ((hA z hxz).2 hz) hxz
      · have := s3 z ((hB z hxz).2 hz) hxz; omega
 have none_case : nextT (dropL a x) (dropL b x) x = none → ∀ z, z ∈ bnds a ∨ z ∈ bnds b → ¬ x < z := by
  intro hy z hz hxz
  unfold nextT at hy
  cases h1 : nextL (dropL a x) x with
  | none =>
   rw [h1] at hy
   simp only at hy
   rcases hz with hz | hz
   · have := nextL_none h1 z ((hA z hxz).2 hz); omega
   · have := nextL_none hy z ((hB z hxz).2 hz); omega
  | some u =>
   rw [h1] at hy
   cases h2 : nextL (dropL b x) x with
   | none => rw [h2] at hy; cases hy
   | some v => rw [h2] at hy; simp only at hy; split at hy <;> cases hy
 have hlt : ∀ y, (y ∈ bnds a ∨ y ∈ bnds b) → y < 18446744073709551616 := fun y hy => by
  rcases hy with h | h
  · exact bnds_lt ha y h
  · exact bnds_lt hb y h
 have hall : ∀ y, (y ∈ bnds a ∨ y ∈ bnds b) → y ∈ allL [a, b] := fun y hy => (allL_two a b y).2 (.inr hy)
 cases hn : nextT (dropL a x) (dropL b x) x with
 | none =>
  have hp : pieceT a b x = ((x, 18446744073709551615), (mem a x, mem b x)) := by unfold pieceT; rw [hn]
  rw [hp]
  have hno := none_case hn
  refine ⟨chn_snoc h rfl (by simp only; omega) (by simp only; omega) hm (fun z hz1 hz2 => ?_), fun y hy => by cases hy⟩
  simp only at hz1 hz2 ⊢
  exact ⟨mem_const ha hz1 (by omega) fun y hy hyx => hno y (.inl hy) hyx.1, mem_const hb hz1 (by omega) fun y hy hyx => hno y (.inr hy) hyx.1⟩
 | some y =>
  obtain ⟨k1, k2, k3⟩ := key y hn
  have hp : pieceT a b x = ((x, y - 1), (mem a x, mem b x)) := by unfold pieceT; rw [hn]
  have hy := hlt y k2
  rw [hp]
  refine ⟨chn_snoc h rfl (by simp only; omega) (by simp only; omega) hm (fun z hz1 hz2 => ?_), fun u hu => by cases hu; exact ⟨k1, hy, by simp only; omega, hall y k2⟩⟩
  simp only at hz1 hz2 ⊢
  exact ⟨mem_const ha hz1 (by omega) fun u hu hux => by have := k3 u (.inl hu) hux.1; omega, mem_const hb hz1 (by omega) fun u hu hux => by have := k3 u (.inr hu) hux.1; omega⟩
def pickP (g : Bool → Bool → Bool) (ps : List Pc) : List Iv := takeL (ps.map fun p => (p.1, g p.2.1 p.2.2)) []
theorem pickP_snoc (g : Bool → Bool → Bool) (ps : List Pc) (p : Pc) : pickP g (ps ++ [p]) = if g p.2.1 p.2.2 then putL (pickP g ps) p.1 else pickP g ps := by
 unfold pickP
 rw [List.map_append, takeL_append]
 rfl
theorem takeL_chn {g : Bool → Bool → Bool} {a b : List Iv} : ∀ {x : Nat} {ps : List Pc} {y : Nat} {out : List Iv}, Chn a b x ps y → Good out → (∀ t ∈ out, t.2 < x) → Lt64 out → (∀ z, mem out z = (decide (z < x) && g (mem a z) (mem b z))) →
 Good (takeL (ps.map fun p => (p.1, g p.2.1 p.2.2)) out) ∧ (∀ t ∈ takeL (ps.map fun p => (p.1, g p.2.1 p.2.2)) out, t.2 < y) ∧ Lt64 (takeL (ps.map fun p => (p.1, g p.2.1 p.2.2)) out) ∧
  (∀ z, mem (takeL (ps.map fun p => (p.1, g p.2.1 p.2.2)) out) z = (decide (z < y) && g (mem a z) (mem b z)))
 | x, [], y, out, hc, h1, h2, h3, h4 => by
   obtain rfl : x = y := hc
   exact ⟨h1, h2, h3, h4⟩
 | x, p :: ps, y, out, hc, h1, h2, h3, h4 => by
   obtain ⟨k1, k2, k3, k4, k5, k6⟩ := hc
   rw [List.map_cons, takeL]
   have hz : ∀ z, x ≤ z → z ≤ p.1.2 → g (mem a z) (mem b z) = g p.2.1 p.2.2 := fun z z1 z2 => by rw [(k5 z z1 z2).1, (k5 z z1 z2).2]
   cases hg : g p.2.1 p.2.2 with
   | false =>
    refine takeL_chn k6 (by simpa using h1) (fun t ht => by have := h2 t (by simpa using ht); omega) (by simpa using h3) (fun z => ?_)
    simp only [Bool.false_eq_true, if_false]
    rw [h4]
    by_cases hzx : z < x
    · rw [decide_eq_true hzx, decide_eq_true (show z < p.1.2 + 1 by omega)]
    · rw [decide_eq_false hzx]
      by_cases hzy : z < p.1.2 + 1
      · rw [hz z (by omega) (by omega), hg]; simp
      · rw [decide_eq_false hzy]
   | true =>
    obtain ⟨q1, q2, q3⟩ := putL_good h1 (s := p.1) (by omega) (by rw [k1]; exact h2)
    have q4 : Lt64 (putL out p.1) := by
     have := takeL_lt (ps := [(p.1, true)]) (out := out) (fun q hq => by simp at hq; subst hq; exact ⟨by simp only; omega, k3⟩) h3
     simpa [takeL] using this
    simp only [if_true]
    refine takeL_chn k6 q1 (fun t ht => by have := q3 t ht; omega) q4 (fun z => ?_)
    rw [q2, h4]
    by_cases hzx : z < x
    · rw [decide_eq_true hzx, decide_eq_true (show z < p.1.2 + 1 by omega), decide_eq_false (show ¬ p.1.1 ≤ z by omega)]; simp
    · rw [decide_eq_false hzx]
      by_cases hzy : z < p.1.2 + 1
      · rw [hz z (by omega) (by omega), hg, decide_eq_true hzy, decide_eq_true (show p.1.1 ≤ z by omega), decide_eq_true (show z ≤ p.1.2 by omega)]; rfl
      · rw [decide_eq_false hzy, decide_eq_false (show ¬ z ≤ p.1.2 by omega)]; simp
theorem pickP_mid {g : Bool → Bool → Bool} {a b : List Iv} {ps : List Pc} {y : Nat} (h : Chn a b 0 ps y) : Good (pickP g ps) ∧ (∀ t ∈ pickP g ps, t.2 < y) ∧ Lt64 (pickP g ps) ∧ ∀ z, mem (pickP g ps) z = (decide (z < y) && g (mem a z) (mem b z)) :=
 takeL_chn h trivial (by simp) (by intro t ht; cases ht) (fun z => by simp [mem])
theorem pickP_all {g : Bool → Bool → Bool} {a b : List Iv} (ha : Lt64 a) (hb : Lt64 b) (h0 : g false false = false) {ps : List Pc} (h : Chn a b 0 ps 18446744073709551616) : pickP g ps = opL g a b := by
 obtain ⟨h1, _, _, h4⟩ := pickP_mid (g := g) h
 refine opL_unique ha hb h0 h1 fun x => ?_
 rw [h4]
 by_cases hx : x < 18446744073709551616
 · rw [decide_eq_true hx]; rfl
 · rw [decide_eq_false hx, mem_top ha (by omega), mem_top hb (by omega), h0]; rfl
theorem pickP_len (g : Bool → Bool → Bool) (ps : List Pc) : (pickP g ps).length ≤ ps.length := by
 have := takeL_len (ps.map fun p => (p.1, g p.2.1 p.2.2)) []
 unfold pickP
 simpa using this
theorem start_in {l : List Iv} {x : Nat} (h : mem l x = true) (h0 : x = 0 ∨ mem l (x - 1) = false) : x ∈ l.map (·.1) := by
 obtain ⟨s, hs, h1, h2⟩ := mem_iff.1 h
 refine List.mem_map.2 ⟨s, hs, ?_⟩
 rcases h0 with rfl | h0
 · omega
 · have := mem_false.1 h0 s hs
   omega
theorem end_in {l : List Iv} {x : Nat} (h : mem l x = false) (h0 : x ≠ 0) (h1 : mem l (x - 1) = true) : x ∈ l.map (fun s => s.2 + 1) := by
 obtain ⟨s, hs, h2, h3⟩ := mem_iff.1 h1
 refine List.mem_map.2 ⟨s, hs, ?_⟩
 have := mem_false.1 h s hs
 omega
theorem good_starts : ∀ {l : List Iv}, Good l → Asc (l.map (·.1))
 | [], _ => trivial
 | s :: l, h => by
   rw [List.map_cons]
   refine asc_cons (fun x hx => ?_) (good_starts h.tail)
   obtain ⟨t, ht, rfl⟩ := List.mem_map.1 hx
   have := h.lower t ht
   have := h.head
   omega
theorem good_start {l : List Iv} (h : Good l) {s : Iv} (hs : s ∈ l) : mem l s.1 = true ∧ (s.1 = 0 ∨ mem l (s.1 - 1) = false) := by
 refine ⟨mem_iff.2 ⟨s, hs, Nat.le_refl _, h.ok s hs⟩, ?_⟩
 by_cases h0 : s.1 = 0
 · exact .inl h0
 · refine .inr ?_
   rw [mem_false]
   intro t ht htx
   obtain ⟨i, hi, rfl⟩ := List.getElem_of_mem hs
   obtain ⟨j, hj, rfl⟩ := List.getElem_of_mem ht
   have hgi := good_idx h i hi
   have hgj := good_idx h j hj
   rw [nthI_get hi] at hgi
   rw [nthI_get hj] at hgj
   rcases Nat.lt_trichotomy i j with e | e | e
   · have := good_mono' h e hj; omega
   · subst e; omega
   · have := good_mono' h e hi; omega
where
 good_mono' {l : List Iv} (h : Good l) {i j : Nat} (hij : i < j) (hj : j < l.length) : (l[i]'(Nat.lt_trans hij hj)).2 + 1 < (l[j]).1 := by
  induction l generalizing i j with
  | nil => simp at hj
  | cons s l ih =>
   cases j with
   | zero => omega
   | succ j =>
    cases i with
    | zero => exact h.lower _ (List.getElem_mem _)
    | succ i => exact ih h.tail (by omega) (by simpa using hj)
theorem len_by {L : List Iv} (h : Good L) {M : List Nat} (hM : ∀ x, mem L x = true → (x = 0 ∨ mem L (x - 1) = false) → x ∈ M) : L.length ≤ M.length := by
 have := asc_len (good_starts h) (M := M) fun x hx => by
  obtain ⟨s, hs, rfl⟩ := List.mem_map.1 hx
  obtain ⟨h1, h2⟩ := good_start h hs
  exact hM _ h1 h2
 simpa using this
theorem opL_len_or {a b : List Iv} (ha : Lt64 a) (hb : Lt64 b) : (opL gOr a b).length ≤ a.length + b.length := by
 obtain ⟨h1, h2, _⟩ := opL_good (g := gOr) ha hb rfl
 have := len_by h1 (M := a.map (·.1) ++ b.map (·.1)) fun x hx h0 => by
  rw [h2] at hx
  rw [h2] at h0
  simp only [gOr, Bool.or_eq_true, Bool.or_eq_false_iff] at hx h0
  rw [List.mem_append]
  rcases hx with hx | hx
  · exact .inl (start_in hx (h0.imp id And.left))
  · exact .inr (start_in hx (h0.imp id And.right))
 simpa using this
theorem opL_len_sub {a b : List Iv} (ha : Lt64 a) (hb : Lt64 b) : (opL gSub a b).length ≤ a.length + b.length := by
 obtain ⟨h1, h2, _⟩ := opL_good (g := gSub) ha hb rfl
 have := len_by h1 (M := a.map (·.1) ++ b.map (fun s => s.2 + 1)) fun x hx h0 => by
  rw [h2] at hx
  rw [h2] at h0
  simp only [gSub, Bool.and_eq_true, Bool.not_eq_true', Bool.and_eq_false_iff, Bool.not_eq_false'] at hx h0
  rw [List.mem_append]
  by_cases hx0 : x = 0
  · exact .inl (start_in hx.1 (.inl hx0))
  · rcases h0 with h0 | h0 | h0
    · exact absurd h0 hx0
    · exact .inl (start_in hx.1 (.inr h0))
    · exact .inr (end_in hx.2 hx0 h0)
 simpa using this
end
end Go.Proofs.YtkkdlgcfcbaibaaGreatDoor
