/- Walks and laws, joined: La12. -/
import Derived.Laws.StructEq
import Derived.Deep.QuietTactic
import Derived.Test.YtkkdlgcfcbaibaaGreatDoorLa11
import Derived.Test.YtkkdlgcfcbaibaaGreatDoorLa03
import Derived.Test.YtkkdlgcfcbaibaaGreatDoorLa02
set_option linter.unusedVariables false
namespace Go.Proofs.YtkkdlgcfcbaibaaGreatDoor
section
def addG : Kno → Frg → Kno
 | [], f => [f]
 | g :: k, f => if cmpV g.2 f.2 = -1 then g :: addG k f else if cmpV g.2 f.2 = 0 then (opL gOr g.1 f.1, f.2) :: k else f :: g :: k
def posG : Kno → Vec → Nat
 | [], _ => 0
 | g :: k, v => if cmpV g.2 v = -1 then posG k v + 1 else 0
def hitG : Kno → Vec → Bool
 | [], _ => false
 | g :: k, v => if cmpV g.2 v = -1 then hitG k v else decide (cmpV g.2 v = 0)
theorem posG_le : ∀ (k : Kno) (v : Vec), posG k v ≤ k.length
 | [], _ => Nat.le_refl _
 | g :: k, v => by
   rw [posG]
   have := posG_le k v
   split
   · simp only [List.length_cons]; omega
   · exact Nat.zero_le _
theorem posG_at : ∀ {k : Kno} {v : Vec} (h : posG k v < k.length), cmpV (nthF k (posG k v)).2 v ≠ -1 ∧ hitG k v = decide (cmpV (nthF k (posG k v)).2 v = 0)
 | [], v, h => by simp at h
 | g :: k, v, h => by
   rw [posG] at h ⊢
   rw [hitG]
   split at h
   · rename_i hc
     rw [if_pos hc, if_pos hc]
     exact posG_at (k := k) (v := v) (by simpa using h)
   · rename_i hc
     rw [if_neg hc, if_neg hc]
     exact ⟨hc, rfl⟩
theorem hitG_end : ∀ {k : Kno} {v : Vec} (h : posG k v = k.length), hitG k v = false
 | [], v, h => rfl
 | g :: k, v, h => by
   rw [posG] at h
   rw [hitG]
   split at h
   · rename_i hc
     rw [if_pos hc]
     exact hitG_end (by simpa using h)
   · simp at h
theorem posG_unique : ∀ {k : Kno} {v : Vec} {i : Nat}, i ≤ k.length → (∀ j, j < i → cmpV (nthF k j).2 v = -1) → (i < k.length → cmpV (nthF k i).2 v ≠ -1) → i = posG k v
 | [], v, i, hi, _, _ => by simp at hi; rw [hi, posG]
 | g :: k, v, 0, hi, h1, h2 => by
   have h3 : cmpV g.2 v ≠ -1 := h2 (by simp)
   rw [posG, if_neg h3]
 | g :: k, v, i + 1, hi, h1, h2 => by
   have h3 : cmpV g.2 v = -1 := h1 0 (by omega)
   rw [posG, if_pos h3]
   have := posG_unique (k := k) (v := v) (i := i) (by simpa using hi) (fun j hj => h1 (j + 1) (by omega)) (fun h => h2 (by simpa using h))
   omega
theorem addG_hit : ∀ {k : Kno} {f : Frg}, hitG k f.2 = true → addG k f = k.set (posG k f.2) (opL gOr (nthF k (posG k f.2)).1 f.1, f.2)
 | [], f, h => by simp [hitG] at h
 | g :: k, f, h => by
   rw [hitG] at h
   rw [addG, posG]
   split at h
   · rename_i hc
     rw [if_pos hc, if_pos hc, addG_hit h]; rfl
   · rename_i hc
     rw [if_neg hc, if_neg hc, if_pos (of_decide_eq_true h)]; rfl
theorem addG_miss : ∀ {k : Kno} {f : Frg}, hitG k f.2 = false → addG k f = k.take (posG k f.2) ++ f :: k.drop (posG k f.2)
 | [], f, h => rfl
 | g :: k, f, h => by
   rw [hitG] at h
   rw [addG, posG]
   split at h
   · rename_i hc
     rw [if_pos hc, if_pos hc, addG_miss h]; rfl
   · rename_i hc
     rw [if_neg hc, if_neg hc, if_neg (of_decide_eq_false h)]; rfl
structure GrpF (f : Frg) : Prop where
 good : Good f.1
 some : f.1 ≠ []
 items : Lt64 f.1
 can : CanV f.2
 any : f.2 ≠ []
 vec : LtV f.2
def hasG (k : Kno) (x : Nat) (v : Vec) : Prop := ∃ h ∈ k, mem h.1 x = true ∧ h.2 = v
theorem opL_some {a b : List Iv} (ha : Lt64 a) (hb : Lt64 b) (hg : Good b) (hn : b ≠ []) : opL gOr a b ≠ [] := by
 intro h
 obtain ⟨x, hx⟩ := good_first hg hn
 have := (opL_good (g := gOr) ha hb rfl).2.1 x
 rw [h, hx, mem_nil] at this
 simp [gOr] at this
theorem addG_vec : ∀ {k : Kno} {f h : Frg}, h ∈ addG k f → h.2 = f.2 ∨ ∃ g ∈ k, g.2 = h.2
 | [], f, h, hh => by simp [addG] at hh; exact .inl (by rw [hh])
 | g :: k, f, h, hh => by
   rw [addG] at hh
   split at hh
   · rcases List.mem_cons.1 hh with rfl | hh
     · exact .inr ⟨_, List.mem_cons_self .., rfl⟩
     · rcases addG_vec hh with e | ⟨g', hg', e⟩
       · exact .inl e
       · exact .inr ⟨g', List.mem_cons_of_mem _ hg', e⟩
   · split at hh
     · rcases List.mem_cons.1 hh with rfl | hh
       · exact .inl rfl
       · exact .inr ⟨h, List.mem_cons_of_mem _ hh, rfl⟩
     · rcases List.mem_cons.1 hh with rfl | hh
       · exact .inl rfl
       · exact .inr ⟨h, hh, rfl⟩
theorem addG_ok : ∀ {k : Kno} {f : Frg}, (∀ g ∈ k, GrpF g) → k.Pairwise VecLt → GrpF f →
 (∀ g ∈ addG k f, GrpF g) ∧ (addG k f).Pairwise VecLt ∧ ∀ x v, hasG (addG k f) x v ↔ hasG k x v ∨ (mem f.1 x = true ∧ f.2 = v)
 | [], f, _, _, hf => by
   refine ⟨fun g hg => ?_, ?_, fun x v => ?_⟩
   · simp [addG] at hg; subst hg; exact hf
   · simp [addG]
   · simp [addG, hasG]
 | g :: k, f, hk, hp, hf => by
   obtain ⟨p1, p2⟩ := List.pairwise_cons.1 hp
   have hg := hk g (List.mem_cons_self ..)
   have hk' : ∀ g ∈ k, GrpF g := fun g hg => hk g (List.mem_cons_of_mem _ hg)
   rw [addG]
   by_cases h1 : cmpV g.2 f.2 = -1
   · rw [if_pos h1]
     obtain ⟨i1, i2, i3⟩ := addG_ok hk' p2 hf
     refine ⟨fun e he => ?_, List.pairwise_cons.2 ⟨fun e he => ?_, i2⟩, fun x v => ?_⟩
     · rcases List.mem_cons.1 he with rfl | he
       · exact hg
       · exact i1 e he
     · unfold VecLt
       rcases addG_vec he with e1 | ⟨g', hg', e1⟩
       · rw [e1]; exact h1
       · rw [← e1]; exact p1 g' hg'
     · have := i3 x v
       unfold hasG at this ⊢
       simp only [List.mem_cons, exists_eq_or_imp, or_assoc]
       rw [this]
   · rw [if_neg h1]
     by_cases h2 : cmpV g.2 f.2 = 0
     · rw [if_pos h2]
       have ev := cmpV_eq h2
       obtain ⟨o1, o2, o3⟩ := opL_good (g := gOr) hg.items hf.items rfl
       refine ⟨fun e he => ?_, List.pairwise_cons.2 ⟨fun e he => ?_, p2⟩, fun x v => ?_⟩
       · rcases List.mem_cons.1 he with rfl | he
         · exact ⟨o1, opL_some hg.items hf.items hf.good hf.some, o3, hf.can, hf.any, hf.vec⟩
         · exact hk' e he
       · have := p1 e he
         unfold VecLt at this ⊢
         simp only
         rw [← ev]; exact this
       · unfold hasG
         simp only [List.mem_cons, exists_eq_or_imp, o2, gOr, Bool.or_eq_true, ev]
         constructor
         · rintro (⟨h | h, e⟩ | h)
           · exact .inl (.inl ⟨h, e⟩)
           · exact .inr ⟨h, e⟩
           · exact .inl (.inr h)
         · rintro ((⟨h, e⟩ | h) | ⟨h, e⟩)
           · exact .inl ⟨.inl h, e⟩
           · exact .inr h
           · exact .inl ⟨.inr h, e⟩
     · rw [if_neg h2]
       have h3 : cmpV f.2 g.2 = -1 := by
        rw [cmpV_neg g.2 f.2]
        rcases cmpV_range g.2 f.2 with e | e | e
        · exact absurd e h1
        · exact absurd e h2
        · rw [e]
       refine ⟨fun e he => ?_, List.pairwise_cons.2 ⟨fun e he => ?_, hp⟩, fun x v => ?_⟩
       · rcases List.mem_cons.1 he with rfl | he
         · exact hf
         · exact hk e he
       · rcases List.mem_cons.1 he with rfl | he
         · exact h3
         · exact cmpV_trans h3 (p1 e he)
       · unfold hasG
         simp only [List.mem_cons, exists_eq_or_imp]
         constructor
         · rintro (h | h)
           · exact .inr h
           · exact .inl h
         · rintro (h | h)
           · exact .inr h
           · exact .inl h
def stepG (out : Kno) (f : Frg) : Kno := if canonV f.2 = [] ∨ f.1 = [] then out else addG out (f.1, canonV f.2)
def groupK (k : Kno) : Kno := k.foldl stepG []
structure RawF (f : Frg) : Prop where
 good : Good f.1
 lt : LtF f
theorem raw_grp {f : Frg} (h : RawF f) (h1 : ¬ (canonV f.2 = [] ∨ f.1 = [])) : GrpF (f.1, canonV f.2) := by
 obtain ⟨c1, c2, _⟩ := canonV_can h.lt.vec h.lt.asc
 exact ⟨h.good, fun e => h1 (.inr e), h.lt.items, c1, fun e => h1 (.inl e), c2⟩
theorem group_fold : ∀ {k out : Kno}, (∀ f ∈ k, RawF f) → (∀ g ∈ out, GrpF g) → out.Pairwise VecLt →
 (∀ g ∈ k.foldl stepG out, GrpF g) ∧ (k.foldl stepG out).Pairwise VecLt ∧
   ∀ x v, v ≠ [] → (hasG (k.foldl stepG out) x v ↔ hasG out x v ∨ ∃ d ∈ k, mem d.1 x = true ∧ canonV d.2 = v)
 | [], out, _, h2, h3 => ⟨h2, h3, fun x v _ => by simp⟩
 | f :: k, out, h1, h2, h3 => by
   rw [List.foldl_cons]
   have hf := h1 f (List.mem_cons_self ..)
   have hk : ∀ f ∈ k, RawF f := fun g hg => h1 g (List.mem_cons_of_mem _ hg)
   by_cases hc : canonV f.2 = [] ∨ f.1 = []
   · have e : stepG out f = out := by unfold stepG; rw [if_pos hc]
     rw [e]
     obtain ⟨k1, k2, k3⟩ := group_fold hk h2 h3
     refine ⟨k1, k2, fun x v hv => ?_⟩
     rw [k3 x v hv]
     simp only [List.mem_cons, exists_eq_or_imp]
     constructor
     · rintro (h | h)
       · exact .inl h
       · exact .inr (.inr h)
     · rintro (h | ⟨h4, h5⟩ | h)
       · exact .inl h
       · rcases hc with e | e
         · exact absurd (h5.symm.trans e) hv
         · rw [e, mem_nil] at h4; cases h4
       · exact .inr h
   · have e : stepG out f = addG out (f.1, canonV f.2) := by unfold stepG; rw [if_neg hc]
     rw [e]
     obtain ⟨a1, a2, a3⟩ := addG_ok h2 h3 (raw_grp hf hc)
     obtain ⟨k1, k2, k3⟩ := group_fold hk a1 a2
     refine ⟨k1, k2, fun x v hv => ?_⟩
     rw [k3 x v hv, a3]
     simp only [List.mem_cons, exists_eq_or_imp, or_assoc]
theorem known_has {k : Kno} {x r c : Nat} : knownK k x r c = true ↔ ∃ v, hasG k x v ∧ knownV v r c = true := by
 rw [knownK_iff]
 constructor
 · rintro ⟨f, hf, h1, h2⟩; exact ⟨f.2, ⟨f, hf, h1, rfl⟩, h2⟩
 · rintro ⟨v, ⟨f, hf, h1, rfl⟩, h2⟩; exact ⟨f, hf, h1, h2⟩
theorem known_ne {v : Vec} {r c : Nat} (h : knownV v r c = true) : v ≠ [] := by
 intro e; subst e; simp [knownV] at h
theorem groupK_ok {k : Kno} (h : ∀ f ∈ k, RawF f) : (∀ g ∈ groupK k, GrpF g) ∧ (groupK k).Pairwise VecLt ∧ (∀ x v, v ≠ [] → (hasG (groupK k) x v ↔ ∃ d ∈ k, mem d.1 x = true ∧ canonV d.2 = v)) ∧
 ∀ x r c, knownK (groupK k) x r c = knownK k x r c := by
 obtain ⟨h1, h2, h3⟩ := group_fold (out := []) h (fun g hg => by cases hg) List.Pairwise.nil
 have h4 : ∀ x v, v ≠ [] → (hasG (groupK k) x v ↔ ∃ d ∈ k, mem d.1 x = true ∧ canonV d.2 = v) := fun x v hv => by
  unfold groupK
  rw [h3 x v hv]
  simp [hasG]
 refine ⟨h1, h2, h4, fun x r c => ?_⟩
 rw [Bool.eq_iff_iff, known_has, knownK_iff]
 constructor
 · rintro ⟨v, hv, hk⟩
   obtain ⟨d, hd, d1, rfl⟩ := (h4 x v (known_ne hk)).1 hv
   exact ⟨d, hd, d1, by rw [← (canonV_can (h d hd).lt.vec (h d hd).lt.asc).2.2]; exact hk⟩
 · rintro ⟨d, hd, d1, hk⟩
   rw [← (canonV_can (h d hd).lt.vec (h d hd).lt.asc).2.2] at hk
   exact ⟨_, (h4 x _ (known_ne hk)).2 ⟨d, hd, d1, rfl⟩, hk⟩
def canonK (k : Kno) : Kno := groupK (refineK k)
theorem pw_common {k : Kno} (h : k.Pairwise (fun f g => ∀ x, mem f.1 x = true → mem g.1 x = true → False)) {f g : Frg} (hf : f ∈ k) (hg : g ∈ k) {x : Nat} (h1 : mem f.1 x = true) (h2 : mem g.1 x = true) : f = g := by
 induction k with
 | nil => cases hf
 | cons a k ih =>
  obtain ⟨p, q⟩ := List.pairwise_cons.1 h
  rcases List.mem_cons.1 hf with rfl | hf2
  · rcases List.mem_cons.1 hg with e | hg2
    · exact e.symm
    · exact (p g hg2 x h1 h2).elim
  · rcases List.mem_cons.1 hg with rfl | hg2
    · exact (p f hf2 x h2 h1).elim
    · exact ih q hf2 hg2
theorem good_one {s : Iv} (h : s.1 ≤ s.2) : Good [s] := h
theorem refine_raw {k : Kno} (hk : LtK k) : ∀ f ∈ refineK k, RawF f := by
 intro f hf
 obtain ⟨s, h1, h2, h3, h4, h5⟩ := (refine_can hk).1 f hf
 refine ⟨by rw [h1]; exact good_one h2, ⟨by rw [h1]; exact lt64_one (by omega) h3, h5, h4.asc⟩⟩
theorem canonK_can {k : Kno} (hk : LtK k) : CanK (canonK k) ∧ LtK (canonK k) ∧ ∀ x r c, knownK (canonK k) x r c = knownK k x r c := by
 obtain ⟨r1, r2, r3⟩ := refine_can hk
 obtain ⟨g1, g2, g3, g4⟩ := groupK_ok (refine_raw hk)
 refine ⟨⟨fun f hf => ⟨(g1 f hf).good, (g1 f hf).some⟩, fun f hf => ⟨(g1 f hf).can, (g1 f hf).any⟩, fun f hf g hg x hx hy => ?_, g2⟩, fun f hf => ⟨(g1 f hf).items, (g1 f hf).vec, (g1 f hf).can.asc⟩, fun x r c => ?_⟩
 · obtain ⟨d, hd, d1, d2⟩ := (g3 x f.2 (g1 f hf).any).1 ⟨f, hf, hx, rfl⟩
   obtain ⟨e, he, e1, e2⟩ := (g3 x g.2 (g1 g hg).any).1 ⟨g, hg, hy, rfl⟩
   have := pw_common r2 hd he d1 e1
   subst this
   exact vec_unique g2 hf hg (d2.symm.trans e2)
 · unfold canonK
   rw [g4, r3]
theorem canonK_self {k : Kno} (hk : LtK k) (hc : CanK k) : canonK k = k := by
 obtain ⟨h1, _, h3⟩ := canonK_can hk
 exact canK_ext h1 hc h3
def ckHole (e : Ent) (i : Nat) : Option (Nat × Nat) := if e.2.1 < (nthI e.2.2 i).2 then some (4, i) else none
def ckE (e : Ent) : Option (Nat × Nat) := match ck e.2.2 with | some x => some x | none => firstS (ckHole e) e.2.2.length
def ckVAt (v : Vec) (i : Nat) : Option (Nat × Nat) := match ckE (nthE v i) with | some x => some (x.1, i) | none => if 0 < i ∧ (nthE v i).1 ≤ (nthE v (i - 1)).1 then some (3, i) else none
def ckV (v : Vec) : Option (Nat × Nat) := firstS (ckVAt v) v.length
def ckFAt (k : Kno) (i : Nat) : Option (Nat × Nat) := match ck (nthF k i).1 with | some x => some (x.1, i) | none => match ckV (nthF k i).2 with | some x => some (x.1, i) | none => none
def ckF (k : Kno) : Option (Nat × Nat) := firstS (ckFAt k) k.length
theorem ck_code {l : List Iv} {x : Nat × Nat} (h : ck l = some x) : x.1 ≠ 0 := by
 obtain ⟨k, -, -, h3⟩ := firstS_of_some h
 unfold ckAt at h3
 split at h3
 · cases h3; simp
 · split at h3 <;> cases h3; simp
theorem ckE_code {e : Ent} {x : Nat × Nat} (h : ckE e = some x) : x.1 ≠ 0 := by
 unfold ckE at h
 split at h
 · rename_i y hy; cases h; exact ck_code hy
 · obtain ⟨k, -, -, h3⟩ := firstS_of_some h
   unfold ckHole at h3
   split at h3 <;> cases h3; simp
theorem ckV_code {v : Vec} {x : Nat × Nat} (h : ckV v = some x) : x.1 ≠ 0 := by
 obtain ⟨k, -, -, h3⟩ := firstS_of_some h
 unfold ckVAt at h3
 split at h3
 · rename_i y hy; cases h3; have := ckE_code hy; exact this
 · split at h3 <;> cases h3; simp
theorem ckF_code {k : Kno} {x : Nat × Nat} (h : ckF k = some x) : x.1 ≠ 0 := by
 obtain ⟨i, -, -, h3⟩ := firstS_of_some h
 unfold ckFAt at h3
 split at h3
 · rename_i y hy; cases h3; have := ck_code hy; exact this
 · split at h3
   · rename_i y hy; cases h3; have := ckV_code hy; exact this
   · cases h3
theorem ckE_none {e : Ent} : ckE e = none ↔ Good e.2.2 ∧ ∀ s ∈ e.2.2, s.2 ≤ e.2.1 := by
 unfold ckE
 cases h : ck e.2.2 with
 | some x =>
  simp only [reduceCtorEq, false_iff]
  intro h2
  rw [ck_good.2 h2.1] at h; cases h
 | none =>
  simp only
  constructor
  · intro h2
    refine ⟨ck_good.1 h, fun s hs => ?_⟩
    obtain ⟨i, hi, rfl⟩ := List.getElem_of_mem hs
    have := firstS_of_none h2 i hi
    unfold ckHole at this
    split at this
    · cases this
    · rename_i h3; rw [nthI_get hi] at h3; omega
  · rintro ⟨-, h2⟩
    refine firstS_none fun i hi => ?_
    unfold ckHole
    rw [if_neg]
    have := h2 _ (nthI_mem hi)
    omega
theorem ckV_none {v : Vec} : ckV v = none ↔ v.Pairwise RepLt ∧ ∀ e ∈ v, ckE e = none := by
 constructor
 · intro h
   have hi := firstS_of_none h
   have h1 : ∀ i, i < v.length → ckE (nthE v i) = none ∧ (0 < i → (nthE v (i - 1)).1 < (nthE v i).1) := fun i hi' => by
    have := hi i hi'
    unfold ckVAt at this
    split at this
    · cases this
    · rename_i h2
      refine ⟨h2, fun h0 => ?_⟩
      split at this
      · cases this
      · omega
   refine ⟨?_, fun e he => ?_⟩
   · rw [List.pairwise_iff_getElem]
     intro i j hi' hj hij
     unfold RepLt
     have step : ∀ d, i + d + 1 < v.length → (nthE v i).1 < (nthE v (i + d + 1)).1 := by
      intro d
      induction d with
      | zero => intro hd; have := (h1 (i + 1) hd).2 (by omega); simpa using this
      | succ d ih =>
       intro hd
       have a := ih (by omega)
       have b := (h1 (i + (d + 1) + 1) hd).2 (by omega)
       rw [show i + (d + 1) + 1 - 1 = i + d + 1 by omega] at b
       omega
     have := step (j - i - 1) (by omega)
     rw [show i + (j - i - 1) + 1 = j by omega, nthE_get hi', nthE_get hj] at this
     exact this
   · obtain ⟨i, hi', rfl⟩ := List.getElem_of_mem he
     have := (h1 i hi').1
     rwa [nthE_get hi'] at this
 · rintro ⟨h1, h2⟩
   refine firstS_none fun i hi => ?_
   unfold ckVAt
   rw [h2 _ (nthE_mem hi)]
   simp only
   rw [if_neg]
   rintro ⟨h0, h3⟩
   rw [List.pairwise_iff_getElem] at h1
   have := h1 (i - 1) i (by omega) hi (by omega)
   unfold RepLt at this
   rw [nthE_get hi, nthE_get (show i - 1 < v.length by omega)] at h3
   omega
theorem ckF_none {k : Kno} : ckF k = none ↔ ∀ f ∈ k, Good f.1 ∧ ckV f.2 = none := by
 constructor
 · intro h f hf
   obtain ⟨i, hi, rfl⟩ := List.getElem_of_mem hf
   have := firstS_of_none h i hi
   unfold ckFAt at this
   rw [nthF_get hi] at this
   split at this
   · cases this
   · rename_i h1
     split at this
     · cases this
     · rename_i h2; exact ⟨ck_good.1 h1, h2⟩
 · intro h
   refine firstS_none fun i hi => ?_
   have := h _ (nthF_mem hi)
   unfold ckFAt
   rw [ck_good.2 this.1, this.2]
def canEB (e : Ent) : Bool := decide (ckE e = none) && !mem e.2.2 e.2.1
theorem canEB_iff {e : Ent} : canEB e = true ↔ CanE e := by
 unfold canEB
 rw [Bool.and_eq_true, decide_eq_true_iff, ckE_none, Bool.not_eq_true']
 constructor
 · rintro ⟨⟨h1, h2⟩, h3⟩; exact ⟨h1, h2, h3⟩
 · rintro ⟨h1, h2, h3⟩; exact ⟨⟨h1, h2⟩, h3⟩
def canVB (v : Vec) : Bool := decide (ckV v = none) && v.all canEB
theorem canVB_iff {v : Vec} : canVB v = true ↔ CanV v := by
 unfold canVB
 rw [Bool.and_eq_true, decide_eq_true_iff, ckV_none, List.all_eq_true]
 constructor
 · rintro ⟨⟨h1, h2⟩, h3⟩; exact ⟨h1, fun e he => canEB_iff.1 (h3 e he)⟩
 · rintro ⟨h1, h2⟩; exact ⟨⟨h1, fun e he => ckE_none.2 ⟨(h2 e he).good, (h2 e he).below⟩⟩, fun e he => canEB_iff.2 (h2 e he)⟩
end
section
open Go.RowKit
theorem refMinus_any (aa ab : Option Addr) (na ca nb cb : Nat) (a b : List Iv) (w : World) (hIa : Ivs w aa na ca a) (hIb : Ivs w ab nb cb b) (hn : 2 * a.length + 2 * b.length + 1 ≤ 100000) :
 Calls Tryz.prog 215 #[.slice aa na ca, .slice ab nb cb] w fun e w' => OwnIv w.heap.size (opL gSub a b) e w' ∧ Below w.heap.size w w' := by
 have hC := Lib.hid (refDo_any aa ab na ca nb cb 2 a b w hIa hIb (by omega) hn)
 clear hIa hIb hn
 go_enter Tryz.func215, Tryz.ntmps215
 go_wp2_with fail
 refine hC.out.mono ?_
 rintro e w1 ⟨⟨v, rfl, ho⟩, hb⟩
 have Ho := Lib.hid ho; have Hb := Lib.hid hb
 clear ho hb
 go_wp2
 go_ret
 exact ⟨⟨v, rfl, Ho.out⟩, Hb.out⟩
theorem firstS_step {α : Type} {f : Nat → Option α} {k : Nat} (h : ∀ j, j < k → f j = none) (hk : f k = none) : ∀ j, j < k + 1 → f j = none := fun j hj => by
 by_cases e : j = k
 · rw [e]; exact hk
 · exact h j (by omega)
set_option maxRecDepth 20000 in
set_option maxHeartbeats 2000000 in
theorem refCheck7_any (e : Ent) (a : Option Addr) (n c : Nat) (w : World) (hI : Ivs w a n c e.2.2) (hm : e.2.1 < 18446744073709551616) :
 Calls Tryz.prog 100 #[entV e (.slice a n c)] w fun x w' => x = .returned (.tuple #[.int .i64 (errCode (errOf (ckE e))), .int .i64 (errAt (errOf (ckE e)))]) ∧ Below w.heap.size w w' := by
 obtain ⟨r, m, hs⟩ := e
 simp only at hI hm
 have hal : Below w.heap.size w (w.alloc (.cells #[.int .u64 r, .int .u64 m, .slice a n c] 71)) := (Below.refl _ _).alloc (Nat.le_refl _) _
 have hrow : (w.alloc (.cells #[.int .u64 r, .int .u64 m, .slice a n c] 71)).heap[w.heap.size]? = some (.cells #[.int .u64 r, .int .u64 m, .slice a n c] 71) := row_new rfl
 have Hq1 := Lib.hid (fun w' (h : Below (w.alloc (.cells #[.int .u64 r, .int .u64 m, .slice a n c] 71)).heap.size (w.alloc (.cells #[.int .u64 r, .int .u64 m, .slice a n c] 71)) w') =>
  (h.cell (p := ⟨w.heap.size, 1, none⟩) (by simp)).trans (cells_cell (i := 1) hrow rfl))
 have Hq2 := Lib.hid (fun w' (h : Below (w.alloc (.cells #[.int .u64 r, .int .u64 m, .slice a n c] 71)).heap.size (w.alloc (.cells #[.int .u64 r, .int .u64 m, .slice a n c] 71)) w') =>
  (h.cell (p := ⟨w.heap.size, 2, none⟩) (by simp)).trans (cells_cell (i := 2) hrow rfl))
 have HI := Lib.hid (hI.below hal)
 have Hl := Lib.hid hI.len
 have hnm : n ≤ 9223372036854775807 := Nat.le_trans hI.room hI.most
 have Hal := Lib.hid hal
 have hC := Lib.hid (refCheck_any a n c hs _ (hI.below hal))
 have Hck := Lib.hid (show ckE (r, m, hs) = match ck hs with | some x => some x | none => firstS (ckHole (r, m, hs)) hs.length from rfl)
 have q1 := Hq1.out _ (Below.refl _ _)
 have q2 := Hq2.out _ (Below.refl _ _)
 clear hI hm hal hrow
 go_enter Tryz.func100, Tryz.ntmps100
 go_wp2_with fail
 refine hC.out.mono ?_
 rintro e w1 ⟨rfl, hb1⟩
 have Hb1 := Lib.hid hb1; clear hb1 hC q1 q2
 have Hw1 := Lib.hid (Hal.out.trans (Hb1.out.mono Hal.out.size))
 cases h : ck hs with
 | some x =>
  obtain ⟨cd, i⟩ := x
  have hne : ((cd : Int) != 0) = true := by have := ck_code h; simp at this; rw [bne_iff_ne]; omega
  rw [h] at Hck
  simp only at Hck
  simp only [errOf, errCode, errAt]
  clear h
  go_wp2
  go_ret2
  exact ⟨by rw [Hck.out]; rfl, Hw1.out⟩
 | none =>
  rw [h] at Hck
  simp only at Hck
  simp only [errOf, errCode, errAt]
  clear h
  have HI1 := Lib.hid (HI.out.below Hb1.out)
  go_wp2
  go_loopw [6] (fun i wr => ∃ k q : Nat, k ≤ n ∧ i = .int .i64 k ∧ wr = w1.drewN q ∧ Hid (∀ j, j < k → ckHole (r, m, hs) j = none)) (fun i _ => n - (intOf i).toNat)
  case atStart => exact ⟨0, 0, by omega, rfl, rfl, fun j h => by omega⟩
  case round =>
   obtain ⟨k, q, hk, rfl, rfl, ht⟩ := hrel
   have q1 := Hq1.out _ Hb1.out
   have q2 := Hq2.out _ Hb1.out
   by_cases hkn : k < n
   · obtain ⟨cb, co, rfl, hcell⟩ := HI1.out.cells (by omega)
     obtain ⟨-, c2⟩ := hcell k hkn
     clear hcell
     have h0 : (0 : Int) ≤ k := by omega
     have h04 : (k : Int) < (n : Int) := by omega
     have Hh := Lib.hid (show ckHole (r, m, hs) k = if m < (nthI hs k).2 then some (4, k) else none from rfl)
     have hkl : k < hs.length := by rw [Hl.out]; exact hkn
     generalize nthI hs k = s at *
     obtain ⟨p, u⟩ := s
     simp only at c2 Hh
     by_cases hu : m < u
     · have hd1 : decide ((m : Int) < (u : Int)) = true := by rw [decide_eq_true_iff]; omega
       have hd2 : decide (m < u) = true := by rw [decide_eq_true_iff]; omega
       have Hr := Lib.hid (firstS_some hkl ht.out (Hh.out.trans (if_pos hu)))
       clear hu
       go_wp2
       go_quiet (fail)
       go_wp2
       go_ret2
       exact ⟨by rw [Hck.out, Hr.out]; rfl, by first | exact below_drewN' Hw1.out _ | exact below_drewN' (below_drewN' Hw1.out _) _⟩
     · have hd1 : decide ((m : Int) < (u : Int)) = false := by rw [decide_eq_false_iff_not]; omega
       have hd2 : decide (m < u) = false := by rw [decide_eq_false_iff_not]; omega
       have Hr := Lib.hid (firstS_step ht.out (Hh.out.trans (if_neg hu)))
       clear hu
       go_wp2
       go_quiet (fail)
       go_wp2
       go_roundw
       case rel => exact ⟨k + 1, _, by omega, by go_num, rfl, Hr.out⟩
       case measure => simp [intOf]; omega
   · obtain rfl : k = n := by omega
     have Hr := Lib.hid (firstS_none (n := hs.length) (fun j hj => ht.out j (by rw [← Hl.out]; exact hj)))
     go_wp2
     go_ret2
     exact ⟨by rw [Hck.out, Hr.out]; rfl, below_drewN' Hw1.out _⟩
theorem box3 (w : World) (x y z : Value) (T : TypeId) (w' : World) (h : Below (w.alloc (.cells #[x, y, z] T)).heap.size (w.alloc (.cells #[x, y, z] T)) w') :
 w'.cell? ⟨w.heap.size, 0, none⟩ = some x ∧ w'.cell? ⟨w.heap.size, 1, none⟩ = some y ∧ w'.cell? ⟨w.heap.size, 2, none⟩ = some z := by
 have hrow : (w.alloc (.cells #[x, y, z] T)).heap[w.heap.size]? = some (.cells #[x, y, z] T) := row_new rfl
 exact ⟨(h.cell (p := ⟨w.heap.size, 0, none⟩) (by simp)).trans (cells_cell (i := 0) hrow rfl),
  (h.cell (p := ⟨w.heap.size, 1, none⟩) (by simp)).trans (cells_cell (i := 1) hrow rfl),
  (h.cell (p := ⟨w.heap.size, 2, none⟩) (by simp)).trans (cells_cell (i := 2) hrow rfl)⟩
theorem refKnown7_any (e : Ent) (a : Option Addr) (n c : Nat) (w : World) (hI : Ivs w a n c e.2.2) (hm : e.2.1 < 18446744073709551616) (hn : 2 * e.2.2.length + 3 ≤ 100000) :
 Calls Tryz.prog 203 #[entV e (.slice a n c)] w fun x w' => OwnIv w.heap.size (knownL e) x w' ∧ Below w.heap.size w w' := by
 obtain ⟨r, m, hs⟩ := e
 simp only at hI hm hn
 have HI := Lib.hid hI; have Hn := Lib.hid hn; have Hm := Lib.hid hm
 clear hI hn hm
 obtain ⟨q0, q1, q2⟩ := box3 w (.int .u64 r) (.int .u64 m) (.slice a n c) 71 _ (Below.refl _ _)
 go_enter Tryz.func203, Tryz.ntmps203
 go_wp2_with fail
 clear q0 q1 q2
 have hb1 : Below w.heap.size w ((w.alloc (.cells #[.int .u64 r, .int .u64 m, .slice a n c] 71)).alloc (.cells #[.int .u64 0, .int .u64 m] 73)) := ((Below.refl _ _).alloc (Nat.le_refl _) _).alloc (by simp) _
 have hr : ((w.alloc (.cells #[.int .u64 r, .int .u64 m, .slice a n c] 71)).alloc (.cells #[.int .u64 0, .int .u64 m] 73)).heap[w.heap.size + 1]? = some (.cells #[.int .u64 0, .int .u64 m] 73) := row_new (by simp)
 have Hb1 := Lib.hid hb1
 refine (refMinus_any _ _ _ _ _ _ [(0, m)] hs _ (ivs_lit (s := (0, m)) hr ⟨by simp, Hm.out⟩) (HI.out.below hb1) (by have := Hn.out; simp; omega)).mono ?_
 rintro e w1 ⟨⟨v, rfl, ho⟩, hb⟩
 have Ho := Lib.hid ho; have Hb := Lib.hid hb
 clear ho hb hr hb1
 go_wp2
 go_ret
 exact ⟨⟨v, rfl, own_mono Ho.out Hb1.out.size⟩, Hb1.out.trans (Hb.out.mono Hb1.out.size)⟩
set_option maxRecDepth 20000 in
set_option maxHeartbeats 2000000 in
theorem refOf7_any (r : Nat) (a : Option Addr) (n c : Nat) (L : List Iv) (w : World) (hI : Ivs w a n c L) (hn : 2 * L.length + 3 ≤ 100000) :
 Calls Tryz.prog 202 #[.int .u64 r, .slice a n c] w fun x w' => OfRes w.heap.size (ofE r L) x w' ∧ Below w.heap.size w w' := by
 rcases nil_or_snoc L with rfl | ⟨l, t, rfl⟩
 · obtain rfl : n = 0 := by simpa using hI.len.symm
   have e : ofE r [] = none := rfl
   rw [e]
   clear hI hn e
   go_enter Tryz.func202, Tryz.ntmps202
   go_wp2
   refine bodyPost_ret (v := .tuple #[entV (0, 0, []) (.slice none 0 0), .bool false]) (by simp [results, Tryz.results202, go_sem]) rfl ?_
   exact ⟨rfl, (Below.refl _ _).alloc (Nat.le_refl _) _⟩
 · have hne : l ++ [t] ≠ [] := by simp
   have htop : topL (l ++ [t]) = t.2 := by simp [topL]
   have e : ofE r (l ++ [t]) = some (r, t.2, opL gSub [(0, t.2)] (l ++ [t])) := by unfold ofE; rw [if_neg hne, htop]
   rw [e]
   have hlen := hI.len
   rw [List.length_append, List.length_singleton] at hlen
   obtain ⟨bb, oo, rfl, hcell⟩ := hI.cells (by omega)
   obtain ⟨-, c2⟩ := hcell l.length (by omega)
   have hnt : nthI (l ++ [t]) l.length = t := by simp [nthI]
   rw [hnt] at c2
   have HI := Lib.hid hI; have Hn := Lib.hid hn
   have Ht := Lib.hid (hI.lt t (by simp)).2
   obtain ⟨k, hk⟩ : ∃ k : Nat, k = l.length := ⟨_, rfl⟩
   rw [← hk] at c2 hlen
   have hsub : IntKind.i64.wrap ((n : Int) - 1) = (k : Int) := by have := hI.room; have := hI.most; rw [IntKind.wrap_i64]; omega
   have hz : ((n : Int) == 0) = false := by rw [beq_eq_false_iff_ne]; omega
   have h01 : (k : Int) < (n : Int) := by omega
   have hkn : k < n := by omega
   have hnc := hI.room
   obtain ⟨tx, ty⟩ := t
   simp only at c2 Ht htop ⊢
   have hal : Below w.heap.size w (w.alloc (.cells #[.int .u64 0, .int .u64 0, .slice none 0 0] 71)) := (Below.refl _ _).alloc (Nat.le_refl _) _
   have q1 := (hal.cell (cell_lt c2)).trans c2
   have Ha := Lib.hid hal
   clear hI hn hcell hne htop e hk hlen hal hnt
   go_enter Tryz.func202, Tryz.ntmps202
   go_wp2_with fail
   have hb1 : Below (w.heap.size + 1) (w.alloc (.cells #[.int .u64 0, .int .u64 0, .slice none 0 0] 71)) ((w.alloc (.cells #[.int .u64 0, .int .u64 0, .slice none 0 0] 71)).alloc (.cells #[.int .u64 0, .int .u64 ty] 73)) :=
    (show (w.alloc (.cells #[.int .u64 0, .int .u64 0, .slice none 0 0] 71)).heap.size = w.heap.size + 1 from by simp) ▸ ((Below.refl _ _).alloc (Nat.le_refl _) _)
   have hrw : ((w.alloc (.cells #[.int .u64 0, .int .u64 0, .slice none 0 0] 71)).alloc (.cells #[.int .u64 0, .int .u64 ty] 73)).heap[w.heap.size + 1]? = some (.cells #[.int .u64 0, .int .u64 ty] 73) := row_new (by simp)
   have Hb1 := Lib.hid hb1
   have hsz1 : (w.alloc (.cells #[.int .u64 0, .int .u64 0, .slice none 0 0] 71)).heap.size = w.heap.size + 1 := by simp
   have hsz2 : ((w.alloc (.cells #[.int .u64 0, .int .u64 0, .slice none 0 0] 71)).alloc (.cells #[.int .u64 0, .int .u64 ty] 73)).heap.size = w.heap.size + 2 := by simp
   have Hs1 := Lib.hid hsz1; have Hs2 := Lib.hid hsz2
   clear hsz1 hsz2
   refine (refMinus_any _ _ _ _ _ _ [(0, ty)] (l ++ [(tx, ty)]) _ (ivs_lit (s := (0, ty)) hrw ⟨by simp, Ht.out⟩) ((HI.out.below Ha.out).below (Hs1.out ▸ hb1)) (by have := Hn.out; simp at this ⊢; omega)).mono ?_
   rintro e w2 ⟨⟨v, rfl, ho⟩, hb2⟩
   have Ho := Lib.hid ho
   have Hb2 := Lib.hid (Hb1.out.trans (hb2.mono (by rw [Hs2.out]; omega)))
   have hrow : w2.heap[w.heap.size]? = some (.cells #[.int .u64 0, .int .u64 0, .slice none 0 0] 71) := (Hb2.out.block _ (by omega)).trans (row_new rfl)
   have z0 : w2.cell? ⟨w.heap.size, 0, none⟩ = some (.int .u64 0) := cells_cell (i := 0) hrow rfl
   have z1 : w2.cell? ⟨w.heap.size, 1, none⟩ = some (.int .u64 0) := cells_cell (i := 1) hrow rfl
   have z2 : w2.cell? ⟨w.heap.size, 2, none⟩ = some (.slice none 0 0) := cells_cell (i := 2) hrow rfl
   have z3 : w2.frozen? ⟨w.heap.size, 0, none⟩ = false := by simp [World.frozen?, hrow]
   have z4 : w2.frozen? ⟨w.heap.size, 1, none⟩ = false := by simp [World.frozen?, hrow]
   have z5 : w2.frozen? ⟨w.heap.size, 2, none⟩ = false := by simp [World.frozen?, hrow]
   have Hw := Lib.hid (Ha.out.trans (Hb2.out.mono (by omega)))
   obtain ⟨vb, vn, vc, rfl⟩ : ∃ vb vn vc, v = .slice vb vn vc := by
    rcases ho.2 with ⟨rfl, _⟩ | ⟨g, cap, cur, rfl, _⟩
    · exact ⟨_, _, _, rfl⟩
    · exact ⟨_, _, _, rfl⟩
   have Ho1 := Lib.hid (own_mono (b := w.heap.size + 2) ho (by rw [Hs2.out]; exact Nat.le_refl _))
   clear ho hb2 hrow hrw hb1 Ho
   go_wp2
   refine bodyPost_ret (v := .tuple #[.agg #[.int .u64 r, .int .u64 ty, .slice vb vn vc], .bool true]) (by simp [results, Tryz.results202, go_sem, z0, z1, z2]) rfl ?_
   have Hh : ∀ (a : Addr) (u : Value) (W : World), a.block = w.heap.size → ∀ k, w.heap.size + 2 ≤ k → (W.setCell a u).heap[k]? = W.heap[k]? := fun a u W ha k hk => Below.heap_setCell _ _ _ _ (by omega)
   refine ⟨⟨_, rfl, own_mono (own_same Ho1.out (fun k hk1 _ => ?_)) (by omega)⟩, ((Hw.out.setCell (Nat.le_refl _) _).setCell (Nat.le_refl _) _).setCell (Nat.le_refl _) _⟩
   rw [Hh _ _ _ rfl k hk1, Hh _ _ _ rfl k hk1, Hh _ _ _ rfl k hk1]
end
end Go.Proofs.YtkkdlgcfcbaibaaGreatDoor
