/- Walks and laws, joined: La10. -/
import Derived.Test.YtkkdlgcfcbaibaaGreatDoorLa09
import Derived.Test.YtkkdlgcfcbaibaaGreatDoorLa06
set_option linter.unusedVariables false
namespace Go.Proofs.YtkkdlgcfcbaibaaGreatDoor
section
open Go.RowKit Go.Shelf
def OwnIv (base : Nat) (L : List Iv) (e : Ending) (w' : World) : Prop := ∃ v, e = .returned v ∧ w'.ownsRow base 73 2 v L.length (ivC L)
theorem union_any (aa ab : Option Addr) (na ca nb cb : Nat) (a b : List Iv) (w : World) (hIa : Ivs w aa na ca a) (hIb : Ivs w ab nb cb b) (ga : Good a) (gb : Good b) (hn : 2 * a.length + 2 * b.length + 1 ≤ 900000) :
 Calls Tryz.prog 71 #[.slice aa na ca, .slice ab nb cb] w fun e w' => OwnIv w.heap.size (opL gOr a b) e w' ∧ Below w.heap.size w w' := by
 have hC := Lib.hid (merge_gOr aa ab na ca nb cb a b w hIa hIb ga gb hn)
 clear hIa hIb ga gb hn
 go_enter Tryz.func71, Tryz.ntmps71
 go_wp2_with fail
 refine hC.out.mono ?_
 rintro e w1 ⟨⟨v, rfl, ho⟩, hb⟩
 have Ho := Lib.hid ho; have Hb := Lib.hid hb
 clear ho hb
 go_wp2
 go_ret
 exact ⟨⟨v, rfl, Ho.out⟩, Hb.out⟩
theorem minus_any (aa ab : Option Addr) (na ca nb cb : Nat) (a b : List Iv) (w : World) (hIa : Ivs w aa na ca a) (hIb : Ivs w ab nb cb b) (ga : Good a) (gb : Good b) (hn : 2 * a.length + 2 * b.length + 1 ≤ 900000) :
 Calls Tryz.prog 238 #[.slice aa na ca, .slice ab nb cb] w fun e w' => OwnIv w.heap.size (opL gSub a b) e w' ∧ Below w.heap.size w w' := by
 have hC := Lib.hid (merge_gSub aa ab na ca nb cb a b w hIa hIb ga gb hn)
 clear hIa hIb ga gb hn
 go_enter Tryz.func238, Tryz.ntmps238
 go_wp2_with fail
 refine hC.out.mono ?_
 rintro e w1 ⟨⟨v, rfl, ho⟩, hb⟩
 have Ho := Lib.hid ho; have Hb := Lib.hid hb
 clear ho hb
 go_wp2
 go_ret
 exact ⟨⟨v, rfl, Ho.out⟩, Hb.out⟩
theorem ivs_lit {w : World} {g : Nat} {s : Iv} {T : TypeId} (h : w.heap[g]? = some (.cells #[.int .u64 ((s.1 : Nat) : Int), .int .u64 ((s.2 : Nat) : Int)] T)) (hs : s.1 < 18446744073709551616 ∧ s.2 < 18446744073709551616) : Ivs w (some ⟨g, 0, none⟩) 1 1 [s] := by
 refine ⟨rfl, fun t ht => by simp at ht; subst ht; exact hs, Nat.le_refl _, by omega, (by intro e; cases e), fun _ => ⟨g, 0, rfl, fun i hi => ?_⟩⟩
 obtain rfl : i = 0 := by omega
 exact ⟨by simp [World.cell?, h, nthI], by simp [World.cell?, h, nthI]⟩
set_option maxHeartbeats 1000000 in
theorem not_any (aa : Option Addr) (na ca : Nat) (a : List Iv) (s : Iv) (w : World) (hIa : Ivs w aa na ca a) (ga : Good a) (hs : s.1 ≤ s.2) (hs2 : s.2 < 18446744073709551616) (hn : 2 * a.length + 3 ≤ 900000) :
 Calls Tryz.prog 230 #[.slice aa na ca, ivV s] w fun e w' => OwnIv w.heap.size (opL gSub [s] a) e w' ∧ Below w.heap.size w w' := by
 obtain ⟨p, q⟩ := s
 have HI := Lib.hid hIa; have Hg := Lib.hid ga; have Hn := Lib.hid hn; have Hs := Lib.hid (And.intro hs hs2)
 clear hIa ga hn hs hs2
 go_enter Tryz.func230, Tryz.ntmps230
 go_wp2_with fail
 have hb1 : Below w.heap.size w ((w.alloc (.cells #[.int .u64 p, .int .u64 q] 73)).alloc (.cells #[.int .u64 p, .int .u64 q] 73)) := ((Below.refl _ _).alloc (Nat.le_refl _) _).alloc (by simp) _
 have hr : ((w.alloc (.cells #[.int .u64 p, .int .u64 q] 73)).alloc (.cells #[.int .u64 p, .int .u64 q] 73)).heap[w.heap.size + 1]? = some (.cells #[.int .u64 p, .int .u64 q] 73) := row_new (by simp)
 have Hb1 := Lib.hid hb1
 refine (minus_any _ _ _ _ _ _ [(p, q)] a _ (ivs_lit hr ⟨by have := Hs.out; simp at this ⊢; omega, Hs.out.2⟩) (HI.out.below hb1) Hs.out.1 Hg.out (by have := Hn.out; simp; omega)).mono ?_
 rintro e w1 ⟨⟨v, rfl, ho⟩, hb⟩
 have Ho := Lib.hid ho; have Hb := Lib.hid hb
 clear ho hb hr hb1
 go_wp2
 go_ret
 exact ⟨⟨v, rfl, own_mono Ho.out Hb1.out.size⟩, Hb1.out.trans (Hb.out.mono Hb1.out.size)⟩
theorem upTo_any (t : Nat) (w : World) : Calls Tryz.prog 231 #[.int .u64 t] w fun e w' => e = .returned (ivV (0, t)) ∧ Below w.heap.size w w' := by
 go_enter Tryz.func231, Tryz.ntmps231
 go_wp2
 refine bodyPost_ret (v := ivV (0, t)) (by simp [results, Tryz.results231, go_sem]) rfl ?_
 exact ⟨rfl, (Below.refl _ _).alloc (Nat.le_refl _) _⟩
end
section
def cmpN : List Nat → List Nat → Int
 | [], [] => 0
 | [], _ :: _ => -1
 | _ :: _, [] => 1
 | a :: l, b :: m => if a < b then -1 else if b < a then 1 else cmpN l m
theorem cmpN_self : ∀ (l : List Nat), cmpN l l = 0
 | [] => rfl
 | a :: l => by rw [cmpN, if_neg (Nat.lt_irrefl _), if_neg (Nat.lt_irrefl _), cmpN_self l]
theorem cmpN_eq : ∀ {a b : List Nat}, cmpN a b = 0 → a = b
 | [], [], _ => rfl
 | [], _ :: _, h => by simp [cmpN] at h
 | _ :: _, [], h => by simp [cmpN] at h
 | a :: l, b :: m, h => by
   rw [cmpN] at h
   split at h
   · cases h
   · split at h
     · cases h
     · have := cmpN_eq h
       have : a = b := by omega
       subst this
       congr
theorem cmpN_range : ∀ (a b : List Nat), cmpN a b = -1 ∨ cmpN a b = 0 ∨ cmpN a b = 1
 | [], [] => .inr (.inl rfl)
 | [], _ :: _ => .inl rfl
 | _ :: _, [] => .inr (.inr rfl)
 | a :: l, b :: m => by
   rw [cmpN]
   split
   · exact .inl rfl
   · split
     · exact .inr (.inr rfl)
     · exact cmpN_range l m
theorem cmpN_neg : ∀ (a b : List Nat), cmpN b a = - cmpN a b
 | [], [] => rfl
 | [], _ :: _ => rfl
 | _ :: _, [] => rfl
 | a :: l, b :: m => by
   rw [cmpN, cmpN]
   by_cases h1 : a < b
   · rw [if_pos h1, if_neg (by omega), if_pos h1]; rfl
   · by_cases h2 : b < a
     · rw [if_pos h2, if_neg h1, if_pos h2]
     · rw [if_neg h1, if_neg h2, if_neg h2, if_neg h1, cmpN_neg l m]
theorem cmpN_trans : ∀ {a b c : List Nat}, cmpN a b = -1 → cmpN b c = -1 → cmpN a c = -1
 | [], [], _, h, _ => by simp [cmpN] at h
 | [], _ :: _, [], _, h => by simp [cmpN] at h
 | [], _ :: _, _ :: _, _, _ => rfl
 | _ :: _, [], _, h, _ => by simp [cmpN] at h
 | _ :: _, _ :: _, [], _, h => by simp [cmpN] at h
 | a :: l, b :: m, c :: n, h1, h2 => by
   rw [cmpN] at h1 h2 ⊢
   split at h1
   · split at h2
     · rw [if_pos (by omega)]
     · split at h2
       · cases h2
       · rw [if_pos (by omega)]
   · split at h1
     · cases h1
     · split at h2
       · rw [if_pos (by omega)]
       · split at h2
         · cases h2
         · rw [if_neg (by omega), if_neg (by omega), cmpN_trans h1 h2]
def numH (l : List Iv) : List Nat := l.flatMap fun s => [s.1, s.2]
def numE (e : Ent) : List Nat := e.1 :: e.2.1 :: e.2.2.length :: numH e.2.2
def numV (v : Vec) : List Nat := v.length :: v.flatMap numE
theorem numH_inj : ∀ {l m : List Iv} {r s : List Nat}, l.length = m.length → numH l ++ r = numH m ++ s → l = m ∧ r = s
 | [], [], r, s, _, h => ⟨rfl, by simpa [numH] using h⟩
 | [], _ :: _, _, _, h, _ => by simp at h
 | _ :: _, [], _, _, h, _ => by simp at h
 | (a, b) :: l, (c, d) :: m, r, s, hl, h => by
   have e1 : numH ((a, b) :: l) = a :: b :: numH l := rfl
   have e2 : numH ((c, d) :: m) = c :: d :: numH m := rfl
   rw [e1, e2] at h
   simp only [List.cons_append, List.cons.injEq] at h
   obtain ⟨rfl, rfl, h⟩ := h
   obtain ⟨rfl, rfl⟩ := numH_inj (by simpa using hl) h
   exact ⟨rfl, rfl⟩
theorem numE_inj {e f : Ent} {r s : List Nat} (h : numE e ++ r = numE f ++ s) : e = f ∧ r = s := by
 obtain ⟨a, b, l⟩ := e
 obtain ⟨c, d, m⟩ := f
 simp only [numE, List.cons_append, List.cons.injEq] at h
 obtain ⟨rfl, rfl, hl, h⟩ := h
 obtain ⟨rfl, rfl⟩ := numH_inj hl h
 exact ⟨rfl, rfl⟩
theorem numF_inj : ∀ {v u : Vec}, v.length = u.length → v.flatMap numE = u.flatMap numE → v = u
 | [], [], _, _ => rfl
 | [], _ :: _, h, _ => by simp at h
 | _ :: _, [], h, _ => by simp at h
 | e :: v, f :: u, hl, h => by
   rw [List.flatMap_cons, List.flatMap_cons] at h
   obtain ⟨rfl, h2⟩ := numE_inj h
   rw [numF_inj (by simpa using hl) h2]
theorem numV_inj {v u : Vec} (h : numV v = numV u) : v = u := by
 simp only [numV, List.cons.injEq] at h
 exact numF_inj h.1 h.2
def cmpV (a b : Vec) : Int := cmpN (numV a) (numV b)
theorem cmpV_self (a : Vec) : cmpV a a = 0 := cmpN_self _
theorem cmpV_eq {a b : Vec} (h : cmpV a b = 0) : a = b := numV_inj (cmpN_eq h)
theorem cmpV_range (a b : Vec) : cmpV a b = -1 ∨ cmpV a b = 0 ∨ cmpV a b = 1 := cmpN_range _ _
theorem cmpV_neg (a b : Vec) : cmpV b a = - cmpV a b := cmpN_neg _ _
theorem cmpV_trans {a b c : Vec} (h1 : cmpV a b = -1) (h2 : cmpV b c = -1) : cmpV a c = -1 := cmpN_trans h1 h2
theorem pw_ext {α : Type} {lt : α → α → Prop} (irr : ∀ a, ¬ lt a a) (tr : ∀ a b c, lt a b → lt b c → lt a c) : ∀ {l m : List α}, l.Pairwise lt → m.Pairwise lt → (∀ x, x ∈ l ↔ x ∈ m) → l = m
 | [], [], _, _, _ => rfl
 | [], b :: m, _, _, h => by have := (h b).2 (List.mem_cons_self ..); simp at this
 | a :: l, [], _, _, h => by have := (h a).1 (List.mem_cons_self ..); simp at this
 | a :: l, b :: m, h1, h2, h => by
   obtain ⟨p1, q1⟩ := List.pairwise_cons.1 h1
   obtain ⟨p2, q2⟩ := List.pairwise_cons.1 h2
   have e : a = b := by
    rcases List.mem_cons.1 ((h a).1 (List.mem_cons_self ..)) with e | ha
    · exact e
    · rcases List.mem_cons.1 ((h b).2 (List.mem_cons_self ..)) with e | hb
      · exact e.symm
      · exact absurd (tr _ _ _ (p1 b hb) (p2 a ha)) (irr a)
   subst e
   congr 1
   refine pw_ext irr tr q1 q2 fun x => ?_
   constructor
   · intro hx
     rcases List.mem_cons.1 ((h x).1 (List.mem_cons_of_mem _ hx)) with e | h'
     · subst e; exact absurd (p1 x hx) (irr x)
     · exact h'
   · intro hx
     rcases List.mem_cons.1 ((h x).2 (List.mem_cons_of_mem _ hx)) with e | h'
     · subst e; exact absurd (p2 x hx) (irr x)
     · exact h'
def knownE (e : Ent) (c : Nat) : Bool := decide (c ≤ e.2.1) && !mem e.2.2 c
def knownV (v : Vec) (r c : Nat) : Bool := v.any fun e => decide (e.1 = r) && knownE e c
theorem knownV_iff {v : Vec} {r c : Nat} : knownV v r c = true ↔ ∃ e ∈ v, e.1 = r ∧ knownE e c = true := by simp [knownV]
def RepLt (e f : Ent) : Prop := e.1 < f.1
structure CanV (v : Vec) : Prop where
 asc : v.Pairwise RepLt
 ent : ∀ e ∈ v, CanE e
theorem canE_top {e : Ent} (h : CanE e) : knownE e e.2.1 = true := by
 unfold knownE
 rw [h.top]
 simp
theorem rep_unique {v : Vec} (h : v.Pairwise RepLt) {e f : Ent} (he : e ∈ v) (hf : f ∈ v) (hr : e.1 = f.1) : e = f := by
 induction v with
 | nil => simp at he
 | cons a v ih =>
  obtain ⟨p, q⟩ := List.pairwise_cons.1 h
  rcases List.mem_cons.1 he with rfl | he2
  · rcases List.mem_cons.1 hf with e | hf2
    · exact e.symm
    · have := p f hf2; unfold RepLt at this; omega
  · rcases List.mem_cons.1 hf with rfl | hf2
    · have := p e he2; unfold RepLt at this; omega
    · exact ih q he2 hf2
theorem canV_sub {v u : Vec} (hv : CanV v) (hu : CanV u) (hk : ∀ r c, knownV v r c = knownV u r c) {e : Ent} (he : e ∈ v) : e ∈ u := by
 have h1 : knownV v e.1 e.2.1 = true := knownV_iff.2 ⟨e, he, rfl, canE_top (hv.ent e he)⟩
 rw [hk] at h1
 obtain ⟨f, hf, hr, _⟩ := knownV_iff.1 h1
 have : e = f := canE_ext (hv.ent e he) (hu.ent f hf) hr.symm fun c => by
  rw [Bool.eq_iff_iff]
  constructor
  · intro h
    have h2 : knownV u e.1 c = true := by rw [← hk]; exact knownV_iff.2 ⟨e, he, rfl, h⟩
    obtain ⟨g, hg, hr2, hc⟩ := knownV_iff.1 h2
    rw [rep_unique hu.asc hf hg (by omega)]
    exact hc
  · intro h
    have h2 : knownV v e.1 c = true := by rw [hk]; exact knownV_iff.2 ⟨f, hf, hr, h⟩
    obtain ⟨g, hg, hr2, hc⟩ := knownV_iff.1 h2
    rw [rep_unique hv.asc he hg (by omega)]
    exact hc
 rw [this]; exact hf
theorem canV_ext {v u : Vec} (hv : CanV v) (hu : CanV u) (hk : ∀ r c, knownV v r c = knownV u r c) : v = u :=
 pw_ext (lt := RepLt) (fun a h => Nat.lt_irrefl _ h) (fun a b c h1 h2 => Nat.lt_trans h1 h2) hv.asc hu.asc fun e => ⟨canV_sub hv hu hk, canV_sub hu hv fun r c => (hk r c).symm⟩
def knownK (k : Kno) (x r c : Nat) : Bool := k.any fun f => mem f.1 x && knownV f.2 r c
theorem knownK_iff {k : Kno} {x r c : Nat} : knownK k x r c = true ↔ ∃ f ∈ k, mem f.1 x = true ∧ knownV f.2 r c = true := by simp [knownK]
def VecLt (f g : Frg) : Prop := cmpV f.2 g.2 = -1
structure CanK (k : Kno) : Prop where
 items : ∀ f ∈ k, Good f.1 ∧ f.1 ≠ []
 vec : ∀ f ∈ k, CanV f.2 ∧ f.2 ≠ []
 apart : ∀ f ∈ k, ∀ g ∈ k, ∀ x, mem f.1 x = true → mem g.1 x = true → f = g
 asc : k.Pairwise VecLt
theorem vec_unique {k : Kno} (h : k.Pairwise VecLt) {f g : Frg} (hf : f ∈ k) (hg : g ∈ k) (hv : f.2 = g.2) : f = g := by
 induction k with
 | nil => simp at hf
 | cons a k ih =>
  obtain ⟨p, q⟩ := List.pairwise_cons.1 h
  rcases List.mem_cons.1 hf with rfl | hf2
  · rcases List.mem_cons.1 hg with e | hg2
    · exact e.symm
    · have := p g hg2; unfold VecLt at this; rw [hv, cmpV_self] at this; cases this
  · rcases List.mem_cons.1 hg with rfl | hg2
    · have := p f hf2; unfold VecLt at this; rw [hv, cmpV_self] at this; cases this
    · exact ih q hf2 hg2
theorem canK_at {k : Kno} (h : CanK k) {f : Frg} (hf : f ∈ k) {x : Nat} (hx : mem f.1 x = true) (r c : Nat) : knownK k x r c = knownV f.2 r c := by
 rw [Bool.eq_iff_iff, knownK_iff]
 constructor
 · rintro ⟨g, hg, hgx, hk⟩
   rw [h.apart f hf g hg x hx hgx]; exact hk
 · intro hk
   exact ⟨f, hf, hx, hk⟩
theorem canV_some {v : Vec} (h : CanV v) (hne : v ≠ []) : ∃ r c, knownV v r c = true := by
 cases v with
 | nil => exact absurd rfl hne
 | cons e v => exact ⟨e.1, e.2.1, knownV_iff.2 ⟨e, by simp, rfl, canE_top (h.ent e (by simp))⟩⟩
theorem good_first {l : List Iv} (h : Good l) (hne : l ≠ []) : ∃ x, mem l x = true := by
 cases l with
 | nil => exact absurd rfl hne
 | cons s l => exact ⟨s.2, (mem_last h (s := s) (by simp)).1⟩
theorem canK_sub {k j : Kno} (hk : CanK k) (hj : CanK j) (he : ∀ x r c, knownK k x r c = knownK j x r c) {f : Frg} (hf : f ∈ k) : f ∈ j := by
 have step : ∀ {k j : Kno}, CanK k → CanK j → (∀ x r c, knownK k x r c = knownK j x r c) → ∀ {f : Frg}, f ∈ k → ∀ x, mem f.1 x = true → ∃ g ∈ j, mem g.1 x = true ∧ f.2 = g.2 := by
  intro k j hk hj he f hf x hx
  obtain ⟨r, c, hv⟩ := canV_some (hk.vec f hf).1 (hk.vec f hf).2
  have h1 : knownK j x r c = true := by rw [← he]; exact knownK_iff.2 ⟨f, hf, hx, hv⟩
  obtain ⟨g, hg, hgx, _⟩ := knownK_iff.1 h1
  refine ⟨g, hg, hgx, canV_ext (hk.vec f hf).1 (hj.vec g hg).1 fun r c => ?_⟩
  rw [← canK_at hk hf hx, ← canK_at hj hg hgx, he]
 obtain ⟨x, hx⟩ := good_first (hk.items f hf).1 (hk.items f hf).2
 obtain ⟨g, hg, hgx, hv⟩ := step hk hj he hf x hx
 have : f = g := by
  have hi : f.1 = g.1 := good_ext (hk.items f hf).1 (hj.items g hg).1 fun y => by
   rw [Bool.eq_iff_iff]
   constructor
   · intro hy
     obtain ⟨g', hg', hgy, hv'⟩ := step hk hj he hf y hy
     rw [vec_unique hj.asc hg hg' (hv.symm.trans hv')]
     exact hgy
   · intro hy
     obtain ⟨f', hf', hfy, hv'⟩ := step hj hk (fun x r c => (he x r c).symm) hg y hy
     rw [vec_unique hk.asc hf hf' (hv.trans hv')]
     exact hfy
  obtain ⟨a, b⟩ := f
  obtain ⟨c, d⟩ := g
  simp only at hi hv
  rw [hi, hv]
 rw [this]; exact hg
theorem canK_ext {k j : Kno} (hk : CanK k) (hj : CanK j) (he : ∀ x r c, knownK k x r c = knownK j x r c) : k = j :=
 pw_ext (lt := VecLt) (fun a h => by unfold VecLt at h; rw [cmpV_self] at h; cases h) (fun a b c h1 h2 => cmpV_trans h1 h2) hk.asc hj.asc fun f => ⟨canK_sub hk hj he, canK_sub hj hk fun x r c => (he x r c).symm⟩
abbrev LtV (v : Vec) : Prop := ∀ e ∈ v, LtE e
theorem mem_known {e : Ent} (h : LtE e) (c : Nat) : mem (knownL e) c = knownE e c := (knownL_good h).2.1 c
def knownAt (v : Vec) (r : Nat) : List Iv := match v.find? (fun e => decide (e.1 = r)) with | some e => knownL e | none => []
theorem knownAt_mem {v : Vec} (hl : LtV v) (ha : v.Pairwise RepLt) (r c : Nat) : mem (knownAt v r) c = knownV v r c := by
 unfold knownAt
 cases hf : v.find? (fun e => decide (e.1 = r)) with
 | none =>
  have hn := List.find?_eq_none.1 hf
  rw [mem_nil]
  symm
  rw [← Bool.not_eq_true, knownV_iff]
  rintro ⟨e, he, hr, _⟩
  exact hn e he (decide_eq_true hr)
 | some e =>
  have he := List.mem_of_find?_eq_some hf
  have hr : e.1 = r := by have := List.find?_some hf; exact of_decide_eq_true this
  simp only
  rw [mem_known (hl e he), Bool.eq_iff_iff, knownV_iff]
  constructor
  · intro h; exact ⟨e, he, hr, h⟩
  · rintro ⟨f, hf2, hr2, h⟩
    rw [rep_unique ha he hf2 (by omega)]; exact h
theorem knownAt_lt {v : Vec} (hl : LtV v) (r : Nat) : Lt64 (knownAt v r) := by
 unfold knownAt
 cases hf : v.find? (fun e => decide (e.1 = r)) with
 | none => intro t ht; cases ht
 | some e => exact (knownL_good (hl e (List.mem_of_find?_eq_some hf))).2.2
structure IsOf (r : Nat) (L : List Iv) (o : Option Ent) : Prop where
 none : L = [] → o = none
 some : L ≠ [] → ∃ e, o = some e ∧ e.1 = r ∧ CanE e ∧ Lt64 e.2.2 ∧ e.2.1 < 18446744073709551616 ∧ ∀ c, knownE e c = mem L c
theorem ofE_is {r : Nat} {L : List Iv} (hG : Good L) (hl : Lt64 L) : IsOf r L (ofE r L) := by
 refine ⟨fun h => by unfold ofE; rw [if_pos h], fun h => ?_⟩
 obtain ⟨e, h1, h2, h3, h4, h5, h6⟩ := ofE_can (r := r) hG hl h
 exact ⟨e, h1, h2, h3, h4, h5, h6⟩
theorem filt_can {S : List Nat} (f : Nat → Option Ent) (hS : Asc S) (hf : ∀ r ∈ S, ∀ e, f r = some e → e.1 = r ∧ CanE e ∧ LtE e) :
 CanV (S.filterMap f) ∧ LtV (S.filterMap f) ∧ ∀ r c, knownV (S.filterMap f) r c = true ↔ ∃ e, r ∈ S ∧ f r = some e ∧ knownE e c = true := by
 refine ⟨⟨?_, fun e he => ?_⟩, fun e he => ?_, fun r c => ?_⟩
 · induction S with
   | nil => exact List.Pairwise.nil
   | cons a S ih =>
    have ih' := ih hS.tail (fun r hr => hf r (List.mem_cons_of_mem _ hr))
    cases h : f a with
    | none => rw [List.filterMap_cons_none h]; exact ih'
    | some e =>
     rw [List.filterMap_cons_some h]
     refine List.pairwise_cons.2 ⟨fun g hg => ?_, ih'⟩
     obtain ⟨b, hb, hb2⟩ := List.mem_filterMap.1 hg
     have e1 := (hf a (List.mem_cons_self ..) e h).1
     have e2 := (hf b (List.mem_cons_of_mem _ hb) g hb2).1
     have := hS.lower b hb
     unfold RepLt
     omega
 · obtain ⟨b, hb, hb2⟩ := List.mem_filterMap.1 he
   exact (hf b hb e hb2).2.1
 · obtain ⟨b, hb, hb2⟩ := List.mem_filterMap.1 he
   exact (hf b hb e hb2).2.2
 · rw [knownV_iff]
   constructor
   · rintro ⟨e, he, hr, hk⟩
     obtain ⟨b, hb, hb2⟩ := List.mem_filterMap.1 he
     have := (hf b hb e hb2).1
     subst hr
     exact ⟨e, by rw [this]; exact hb, by rw [this]; exact hb2, hk⟩
   · rintro ⟨e, hr, he, hk⟩
     exact ⟨e, List.mem_filterMap.2 ⟨r, hr, he⟩, (hf r hr e he).1, hk⟩
def repsV (a b : Vec) : List Nat := sortA (a.map (·.1) ++ b.map (·.1))
def doV (g : Bool → Bool → Bool) (a b : Vec) : Vec := (repsV a b).filterMap fun r => ofE r (opL g (knownAt a r) (knownAt b r))
theorem knownV_none {v : Vec} {r : Nat} (h : r ∉ v.map (·.1)) (c : Nat) : knownV v r c = false := by
 rw [← Bool.not_eq_true, knownV_iff]
 rintro ⟨e, he, hr, _⟩
 exact h (List.mem_map.2 ⟨e, he, hr⟩)
theorem doV_can {g : Bool → Bool → Bool} (h0 : g false false = false) {a b : Vec} (ha : LtV a) (hb : LtV b) (pa : a.Pairwise RepLt) (pb : b.Pairwise RepLt) :
 CanV (doV g a b) ∧ LtV (doV g a b) ∧ ∀ r c, knownV (doV g a b) r c = g (knownV a r c) (knownV b r c) := by
 have hop := fun r => opL_good (g := g) (knownAt_lt ha r) (knownAt_lt hb r) h0
 have hreps : ∀ r, r ∈ repsV a b ↔ r ∈ a.map (·.1) ∨ r ∈ b.map (·.1) := fun r => by unfold repsV; rw [sortA_mem, List.mem_append]
 obtain ⟨h1, h2, h3⟩ := filt_can (S := repsV a b) (fun r => ofE r (opL g (knownAt a r) (knownAt b r))) (sortA_asc _) (fun r hr e he => by
  have hi := ofE_is (r := r) (hop r).1 (hop r).2.2
  by_cases hn : opL g (knownAt a r) (knownAt b r) = []
  · rw [hi.none hn] at he; cases he
  · obtain ⟨e', h1, h2, h3, h4, h5, _⟩ := hi.some hn
    rw [h1] at he
    cases he
    refine ⟨h2, h3, ⟨?_, h5, h4⟩⟩
    rw [h2]
    rcases (hreps r).1 hr with h | h
    · obtain ⟨f, hf, rfl⟩ := List.mem_map.1 h; exact (ha f hf).rep
    · obtain ⟨f, hf, rfl⟩ := List.mem_map.1 h; exact (hb f hf).rep)
 refine ⟨h1, h2, fun r c => ?_⟩
 rw [Bool.eq_iff_iff]
 refine (h3 r c).trans ?_
 have hi := ofE_is (r := r) (hop r).1 (hop r).2.2
 have hm := (hop r).2.1 c
 rw [knownAt_mem ha pa, knownAt_mem hb pb] at hm
 constructor
 · rintro ⟨e, hr, he, hk⟩
   by_cases hn : opL g (knownAt a r) (knownAt b r) = []
   · rw [hi.none hn] at he; cases he
   · obtain ⟨e', k1, _, _, _, _, k6⟩ := hi.some hn
     rw [k1] at he
     cases he
     rw [← hm, ← k6]; exact hk
 · intro hg
   have hne : opL g (knownAt a r) (knownAt b r) ≠ [] := by
    intro h
    rw [h, mem_nil] at hm
    rw [← hm] at hg; cases hg
   obtain ⟨e', k1, _, _, _, _, k6⟩ := hi.some hne
   refine ⟨e', ?_, k1, by rw [k6, hm]; exact hg⟩
   rw [hreps]
   refine Decidable.by_contra fun hr => ?_
   rw [not_or] at hr
   rw [knownV_none hr.1, knownV_none hr.2, h0] at hg
   cases hg
def canonE (e : Ent) : Option Ent := ofE e.1 (knownL e)
def canonV (v : Vec) : Vec := v.filterMap canonE
theorem canonE_is {e : Ent} (h : LtE e) : IsOf e.1 (knownL e) (canonE e) := ofE_is (knownL_good h).1 (knownL_good h).2.2
theorem canonE_some {e f : Ent} (h : LtE e) (hf : canonE e = some f) : f.1 = e.1 ∧ CanE f ∧ LtE f ∧ ∀ c, knownE f c = knownE e c := by
 have hi := canonE_is h
 by_cases hn : knownL e = []
 · rw [hi.none hn] at hf; cases hf
 · obtain ⟨e', k1, k2, k3, k4, k5, k6⟩ := hi.some hn
   rw [k1] at hf
   cases hf
   exact ⟨k2, k3, ⟨by rw [k2]; exact h.rep, k5, k4⟩, fun c => by rw [k6, mem_known h]⟩
theorem canonE_none {e : Ent} (h : LtE e) (hf : canonE e = none) (c : Nat) : knownE e c = false := by
 have hi := canonE_is h
 by_cases hn : knownL e = []
 · rw [← mem_known h, hn]; rfl
 · obtain ⟨e', k1, _⟩ := hi.some hn
   rw [k1] at hf; cases hf
theorem canonE_self {e : Ent} (h : LtE e) (hc : CanE e) : canonE e = some e := by
 cases hf : canonE e with
 | none => have := canonE_none h hf e.2.1; rw [canE_top hc] at this; cases this
 | some f =>
  obtain ⟨h1, h2, _, h4⟩ := canonE_some h hf
  rw [canE_ext hc h2 h1.symm fun c => (h4 c).symm]
theorem canonV_can {v : Vec} (hl : LtV v) (ha : v.Pairwise RepLt) : CanV (canonV v) ∧ LtV (canonV v) ∧ ∀ r c, knownV (canonV v) r c = knownV v r c := by
 refine ⟨⟨?_, fun f hf => ?_⟩, fun f hf => ?_, fun r c => ?_⟩
 · unfold canonV
   induction v with
   | nil => exact List.Pairwise.nil
   | cons e v ih =>
    obtain ⟨p, q⟩ := List.pairwise_cons.1 ha
    have ih' := ih (fun x hx => hl x (List.mem_cons_of_mem _ hx)) q
    cases h : canonE e with
    | none => rw [List.filterMap_cons_none h]; exact ih'
    | some f =>
     rw [List.filterMap_cons_some h]
     refine List.pairwise_cons.2 ⟨fun g hg => ?_, ih'⟩
     obtain ⟨b, hb, hb2⟩ := List.mem_filterMap.1 hg
     have e1 := (canonE_some (hl e (List.mem_cons_self ..)) h).1
     have e2 := (canonE_some (hl b (List.mem_cons_of_mem _ hb)) hb2).1
     have := p b hb
     unfold RepLt at this ⊢
     omega
 · obtain ⟨b, hb, hb2⟩ := List.mem_filterMap.1 hf
   exact (canonE_some (hl b hb) hb2).2.1
 · obtain ⟨b, hb, hb2⟩ := List.mem_filterMap.1 hf
   exact (canonE_some (hl b hb) hb2).2.2.1
 · rw [Bool.eq_iff_iff, knownV_iff, knownV_iff]
   constructor
   · rintro ⟨f, hf, hr, hk⟩
     obtain ⟨b, hb, hb2⟩ := List.mem_filterMap.1 hf
     obtain ⟨e1, _, _, e4⟩ := canonE_some (hl b hb) hb2
     exact ⟨b, hb, by omega, by rw [← e4]; exact hk⟩
   · rintro ⟨b, hb, hr, hk⟩
     cases h : canonE b with
     | none => rw [canonE_none (hl b hb) h] at hk; cases hk
     | some f =>
      obtain ⟨e1, _, _, e4⟩ := canonE_some (hl b hb) h
      exact ⟨f, List.mem_filterMap.2 ⟨b, hb, h⟩, by omega, by rw [e4]; exact hk⟩
theorem canonV_self {v : Vec} (hl : LtV v) (hc : CanV v) : canonV v = v := by
 have h := canonV_can hl hc.asc
 exact canV_ext h.1 hc h.2.2
structure LtF (f : Frg) : Prop where
 items : Lt64 f.1
 vec : LtV f.2
 asc : f.2.Pairwise RepLt
abbrev LtK (k : Kno) : Prop := ∀ f ∈ k, LtF f
def atK (k : Kno) (x : Nat) : Vec := k.foldl (fun v f => if mem f.1 x = true then doV gOr v f.2 else v) []
theorem canV_nil : CanV [] := ⟨List.Pairwise.nil, fun e he => by cases he⟩
theorem at_fold {x : Nat} : ∀ {k : Kno} {v : Vec}, LtK k → CanV v → LtV v →
 CanV (k.foldl (fun v f => if mem f.1 x = true then doV gOr v f.2 else v) v) ∧ LtV (k.foldl (fun v f => if mem f.1 x = true then doV gOr v f.2 else v) v) ∧
  ∀ r c, knownV (k.foldl (fun v f => if mem f.1 x = true then doV gOr v f.2 else v) v) r c = (knownV v r c || knownK k x r c)
 | [], v, _, hc, hl => ⟨hc, hl, fun r c => by simp [knownK]⟩
 | f :: k, v, hk, hc, hl => by
   have hf := hk f (List.mem_cons_self ..)
   rw [List.foldl_cons]
   have e : ∀ r c, knownK (f :: k) x r c = ((mem f.1 x && knownV f.2 r c) || knownK k x r c) := fun r c => rfl
   by_cases hx : mem f.1 x = true
   · obtain ⟨h1, h2, h3⟩ := doV_can (g := gOr) rfl hl hf.vec hc.asc hf.asc
     rw [if_pos hx]
     obtain ⟨k1, k2, k3⟩ := at_fold (k := k) (v := doV gOr v f.2) (fun g hg => hk g (List.mem_cons_of_mem _ hg)) h1 h2
     refine ⟨k1, k2, fun r c => ?_⟩
     rw [k3, h3, e, hx]
     simp [gOr, Bool.or_assoc]
   · have hx' : mem f.1 x = false := by simpa using hx
     rw [if_neg hx]
     obtain ⟨k1, k2, k3⟩ := at_fold (k := k) (v := v) (fun g hg => hk g (List.mem_cons_of_mem _ hg)) hc hl
     refine ⟨k1, k2, fun r c => ?_⟩
     rw [k3, e, hx']
     simp
theorem atK_can {k : Kno} (hk : LtK k) (x : Nat) : CanV (atK k x) ∧ LtV (atK k x) ∧ ∀ r c, knownV (atK k x) r c = knownK k x r c := by
 obtain ⟨h1, h2, h3⟩ := at_fold (x := x) (v := []) hk canV_nil (fun e he => by cases he)
 exact ⟨h1, h2, fun r c => by unfold atK; rw [h3]; rfl⟩
end
section
open Go.RowKit Go.Shelf
abbrev entV (e : Ent) (s : Value) : Value := .agg #[.int .u64 ((e.1 : Nat) : Int), .int .u64 ((e.2.1 : Nat) : Int), s]
set_option maxHeartbeats 2000000 in
theorem known_any (e : Ent) (a : Option Addr) (n c : Nat) (w : World) (hI : Ivs w a n c e.2.2) (hG : Good e.2.2) (hm : e.2.1 < 18446744073709551616) (hn : 2 * e.2.2.length + 3 ≤ 900000) :
 Calls Tryz.prog 227 #[entV e (.slice a n c)] w fun x w' => OwnIv w.heap.size (knownL e) x w' ∧ Below w.heap.size w w' := by
 obtain ⟨r, m, hs⟩ := e
 have HI := Lib.hid hI; have Hg := Lib.hid hG; have Hn := Lib.hid hn; have Hm := Lib.hid hm
 clear hI hG hn hm
 go_enter Tryz.func227, Tryz.ntmps227
 go_wp2_with fail
 have hal : Below w.heap.size w (w.alloc (.cells #[.int .u64 r, .int .u64 m, .slice a n c] 71)) := (Below.refl _ _).alloc (Nat.le_refl _) _
 have q1 : (w.alloc (.cells #[.int .u64 r, .int .u64 m, .slice a n c] 71)).cell? ⟨w.heap.size, 1, none⟩ = some (.int .u64 m) := by simp [go_sem]
 have q2 : (w.alloc (.cells #[.int .u64 r, .int .u64 m, .slice a n c] 71)).cell? ⟨w.heap.size, 2, none⟩ = some (.slice a n c) := by simp [go_sem]
 have Ha := Lib.hid hal
 clear hal
 generalize w.alloc (.cells #[.int .u64 r, .int .u64 m, .slice a n c] 71) = W at *
 go_region_with (first
  | (go_at_call 231; refine (upTo_any _ _).mono ?_; rintro e w1 ⟨rfl, hb1⟩
     have q3 := (hb1.cell (cell_lt q2)).trans q2
     have Hb1 := Lib.hid (show Below W.heap.size W w1 from ⟨hb1.os, hb1.tape, hb1.output, hb1.size, hb1.block⟩); clear hb1)
  | (go_at_call 230; refine (not_any a n c hs (0, m) _ (HI.out.below (Ha.out.trans (Hb1.out.mono Ha.out.size))) Hg.out (Nat.zero_le _) Hm.out (by have := Hn.out; simp at this; omega)).mono ?_
     rintro e w2 ⟨⟨v, rfl, ho⟩, hb2⟩
     have Ho := Lib.hid ho; have Hb2 := Lib.hid hb2; clear ho hb2))
 all_goals go_wp2
 all_goals go_ret
 all_goals exact ⟨⟨v, rfl, own_mono Ho.out (Nat.le_trans Ha.out.size Hb1.out.size)⟩, Ha.out.trans ((Hb1.out.trans (Hb2.out.mono Hb1.out.size)).mono Ha.out.size)⟩
def OfRes (base : Nat) (o : Option Ent) (x : Ending) (w' : World) : Prop :=
 match o with
 | none => x = .returned (.tuple #[entV (0, 0, []) (.slice none 0 0), .bool false])
 | some e => ∃ s, x = .returned (.tuple #[entV e s, .bool true]) ∧ w'.ownsRow base 73 2 s e.2.2.length (ivC e.2.2)
set_option maxRecDepth 20000 in
set_option maxHeartbeats 2000000 in
theorem of_any (r : Nat) (a : Option Addr) (n c : Nat) (L : List Iv) (w : World) (hI : Ivs w a n c L) (hG : Good L) (hn : 2 * L.length + 3 ≤ 900000) :
 Calls Tryz.prog 212 #[.int .u64 r, .slice a n c] w fun x w' => OfRes w.heap.size (ofE r L) x w' ∧ Below w.heap.size w w' := by
 rcases nil_or_snoc L with rfl | ⟨l, t, rfl⟩
 · obtain rfl : n = 0 := by simpa using hI.len.symm
   have e : ofE r [] = none := rfl
   rw [e]
   clear hI hG hn e
   go_enter Tryz.func212, Tryz.ntmps212
   go_wp2
   refine bodyPost_ret (v := .tuple #[entV (0, 0, []) (.slice none 0 0), .bool false]) (by simp [results, Tryz.results212, go_sem]) rfl ?_
   exact ⟨rfl, (Below.refl _ _).alloc (Nat.le_refl _) _⟩
 · have hne : l ++ [t] ≠ [] := by simp
   have htop : topL (l ++ [t]) = t.2 := by simp [topL]
   have e : ofE r (l ++ [t]) = some (r, t.2, opL gSub [(0, t.2)] (l ++ [t])) := by unfold ofE; rw [if_neg hne, htop]
   rw [e]
   have hlen := hI.len
   rw [List.length_append, List.length_singleton] at hlen
   obtain ⟨bb, oo, rfl, hcell⟩ := hI.cells (by omega)
   obtain ⟨-, c2⟩ := hcell l.length (by omega)
   have hnt : nthI (l ++ [t]) l.length = t := by simp [nthI]
   rw [hnt] at c2
   have HI := Lib.hid hI; have Hg := Lib.hid hG; have Hn := Lib.hid hn
   have Ht := Lib.hid (hI.lt t (by simp)).2
   obtain ⟨k, hk⟩ : ∃ k : Nat, k = l.length := ⟨_, rfl⟩
   rw [← hk] at c2 hlen
   have hsub : IntKind.i64.wrap ((n : Int) - 1) = (k : Int) := by have := hI.room; have := hI.most; rw [IntKind.wrap_i64]; omega
   have hz : ((n : Int) == 0) = false := by rw [beq_eq_false_iff_ne]; omega
   have h01 : (k : Int) < (n : Int) := by omega
   have hkn : k < n := by omega
   have hnc := hI.room
   obtain ⟨tx, ty⟩ := t
   simp only at c2 Ht htop ⊢
   have hal : Below w.heap.size w (w.alloc (.cells #[.int .u64 0, .int .u64 0, .slice none 0 0] 71)) := (Below.refl _ _).alloc (Nat.le_refl _) _
   have q1 := (hal.cell (cell_lt c2)).trans c2
   have Ha := Lib.hid hal
   clear hI hG hn hcell hne htop e hk hlen hal hnt
   go_enter Tryz.func212, Tryz.ntmps212
   go_wp2_with (go_at_call 231; refine (upTo_any _ _).mono ?_; rintro e w1 ⟨rfl, hb1⟩; have Hb1 := Lib.hid hb1; clear hb1)
   refine (not_any _ _ _ _ (0, ty) _ (HI.out.below (Ha.out.trans (Hb1.out.mono Ha.out.size))) Hg.out (Nat.zero_le _) Ht.out (by have := Hn.out; simp at this ⊢; omega)).mono ?_
   rintro e w2 ⟨⟨v, rfl, ho⟩, hb2⟩
   have Ho := Lib.hid ho
   have Hb2 := Lib.hid (Hb1.out.trans (hb2.mono Hb1.out.size))
   have hrow : w2.heap[w.heap.size]? = some (.cells #[.int .u64 0, .int .u64 0, .slice none 0 0] 71) := (Hb2.out.block _ (by simp)).trans (row_new rfl)
   have z0 : w2.cell? ⟨w.heap.size, 0, none⟩ = some (.int .u64 0) := by simp [World.cell?, hrow]
   have z1 : w2.cell? ⟨w.heap.size, 1, none⟩ = some (.int .u64 0) := by simp [World.cell?, hrow]
   have z2 : w2.cell? ⟨w.heap.size, 2, none⟩ = some (.slice none 0 0) := by simp [World.cell?, hrow]
   have z3 : w2.frozen? ⟨w.heap.size, 0, none⟩ = false := by simp [World.frozen?, hrow]
   have z4 : w2.frozen? ⟨w.heap.size, 1, none⟩ = false := by simp [World.frozen?, hrow]
   have z5 : w2.frozen? ⟨w.heap.size, 2, none⟩ = false := by simp [World.frozen?, hrow]
   have Hw := Lib.hid (Ha.out.trans (Hb2.out.mono Ha.out.size))
   have Hs1 := Lib.hid (show w.heap.size < w1.heap.size from by have := Hb1.out.size; simp at this; omega)
   obtain ⟨vb, vn, vc, rfl⟩ : ∃ vb vn vc, v = .slice vb vn vc := by
    rcases ho.2 with ⟨rfl, _⟩ | ⟨g, cap, cur, rfl, _⟩
    · exact ⟨_, _, _, rfl⟩
    · exact ⟨_, _, _, rfl⟩
   clear ho hb2 hrow
   go_wp2
   refine bodyPost_ret (v := .tuple #[.agg #[.int .u64 r, .int .u64 ty, .slice vb vn vc], .bool true]) (by simp [results, Tryz.results212, go_sem, z0, z1, z2]) rfl ?_
   have Hh : ∀ (a : Addr) (u : Value) (W : World), a.block = w.heap.size → ∀ k, w1.heap.size ≤ k → (W.setCell a u).heap[k]? = W.heap[k]? := fun a u W ha k hk => Below.heap_setCell _ _ _ _ (by have := Hs1.out; omega)
   refine ⟨⟨_, rfl, own_mono (own_same Ho.out (fun k hk1 _ => ?_)) (Nat.le_of_lt Hs1.out)⟩, ((Hw.out.setCell (Nat.le_refl _) _).setCell (Nat.le_refl _) _).setCell (Nat.le_refl _) _⟩
   rw [Hh _ _ _ rfl k hk1, Hh _ _ _ rfl k hk1, Hh _ _ _ rfl k hk1]
end
end Go.Proofs.YtkkdlgcfcbaibaaGreatDoor
