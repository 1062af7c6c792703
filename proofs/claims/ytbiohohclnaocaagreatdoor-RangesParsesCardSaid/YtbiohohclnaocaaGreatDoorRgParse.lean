/-
  Walk: ranges.Parse.
-/
import Derived.Test.YtbiohohclnaocaaGreatDoorRgEach
namespace Go.Proofs.YtbiohohclnaocaaGreatDoor
open Go.RowKit
set_option linter.unusedVariables false

theorem pcs_len (c : UInt8) : ∀ (l : Txt), ∀ p ∈ pcs c l, p.length ≤ l.length
  | [], p, hp => by simp [pcs] at hp; subst hp; simp
  | x :: r, p, hp => by
    have ih := pcs_len c r
    rw [pcs] at hp
    split at hp
    · rcases List.mem_cons.1 hp with rfl | hp
      · simp
      · have := ih p hp; simp; omega
    · split at hp
      · simp at hp; subst hp; simp
      · rename_i q qs e
        rcases List.mem_cons.1 hp with rfl | hp
        · have := ih q (by rw [e]; simp)
          simp; omega
        · have := ih p (by rw [e]; simp [hp])
          simp; omega

theorem partsL_lt (ls : List Txt) : ∀ t ∈ partsL ls, t.1 < 18446744073709551616 ∧ t.2 < 18446744073709551616 := by
  intro t ht
  obtain ⟨p, _, rfl⟩ := List.mem_map.1 ht
  exact partR_lt

theorem nthI_parts (ls : List Txt) (k : Nat) (h : k < ls.length) : nthI (partsL ls) k = (partR (nthT ls k)).2 := by
  rw [nthI_get (by simpa [partsL] using h), nthT_get h]
  simp [partsL]

theorem contains_any (s : Txt) (hs : s.length ≤ 1000000) (w : World) (hM : MaxL w) :
    Calls Tryz.prog 43 #[strV s, .string ⟨#[45]⟩] w fun e w' => e = .returned (.bool (Lib.contains s [45])) ∧ w = w' := by
  obtain ⟨m, hm⟩ := hM
  exact (Tryz.strings_Contains ⟨s.toArray⟩ ⟨#[45]⟩ m w (by simp [ByteArray.size]; omega) hm).mono fun e w' ⟨h1, h2⟩ => ⟨h1, h2.symm⟩

/-- What ranges.Parse answers. -/
def ParseRes (s : Txt) (base : Nat) (e : Ending) (w' : World) : Prop :=
  ∃ v, e = .returned (.tuple #[v, errVal (errOf (parseL s).2)]) ∧ w'.ownsRow base 31 2 v (parseL s).1.length (ivC (parseL s).1)

theorem parseRes_err {s : Txt} {base : Nat} {e : Ending} {w' : World} {c i : Nat} (h : parseL s = ([], some (c, i))) (he : e = .returned (.tuple #[.slice none 0 0, errVal (some ((c : Int), some (i : Int)))])) : ParseRes s base e w' :=
  ⟨.slice none 0 0, by rw [he, h]; rfl, by rw [h]; exact World.ownsRow_nil _ _ _ _⟩

set_option maxRecDepth 20000 in
set_option maxHeartbeats 4000000 in
theorem parse_any (s : Txt) (w : World) (hs : s.length ≤ 1000000) (hD : Door w) (hM : MaxL w) (hR : RangeE w) :
    Calls Tryz.prog 20 #[strV s] w fun e w' => ParseRes s w.heap.size e w' ∧ Below w.heap.size w w' := by
  by_cases h0 : s = noneT
  · subst h0
    go_enter Tryz.func20, Tryz.ntmps20
    go_wp2
    refine bodyPost_ret (v := .tuple #[.slice none 0 0, .nilIface]) (by simp [results, Tryz.results20, go_sem]) rfl ?_
    exact ⟨⟨_, rfl, World.ownsRow_nil _ _ _ _⟩, Below.refl _ _⟩
  · have Hdef := Lib.hid (show parseL s = (match partsE (pcs 44 s) with
      | some x => ([], some x)
      | none => match ck (partsL (pcs 44 s)) with
        | some x => ([], some x)
        | none => match dblE (pcs 44 s) with
          | some x => ([], some x)
          | none => (partsL (pcs 44 s), none)) from by unfold parseL; rw [if_neg h0]; rfl)
    have hSp := Lib.hid (split_any s hs w hM)
    have Hpl := Lib.hid (fun p (hp : p ∈ pcs 44 s) => Nat.le_trans (pcs_len 44 s p hp) hs)
    have Hpn := Lib.hid (show (pcs 44 s).length ≤ 1000001 from by
      have h1 := count_bytes s
      have h2 := Lib.countB_le ⟨#[44]⟩ (by decide) (⟨s.toArray⟩ : ByteArray).size ⟨s.toArray⟩ (Nat.le_refl _)
      simp [ByteArray.size] at h2
      omega)
    have HD := Lib.hid (fun W (h : Below w.heap.size w W) => hD.below (Nat.le_refl _) h)
    have HM := Lib.hid (fun W (h : Below w.heap.size w W) => hM.below h)
    have HR := Lib.hid (fun W (h : Below w.heap.size w W) => hR.below h)
    clear hD hM hR
    have hb0 : (s == [110, 111, 110, 101]) = false := by rw [beq_eq_false_iff_ne]; exact h0
    generalize pcs 44 s = ls at *
    go_enter Tryz.func20, Tryz.ntmps20
    go_wp2_with fail
    refine hSp.out.mono ?_
    rintro e w1 ⟨⟨a, cap, rfl, hS⟩, hb1⟩
    have Hb1 := Lib.hid hb1
    have HS := Lib.hid hS
    clear hSp h0 hb0 hb1 hS
    go_wp2_with fail
    refine (each_any a ls.length cap ls _ HS.out (HM.out _ Hb1.out) (HR.out _ Hb1.out) Hpn.out Hpl.out).mono ?_
    rintro e w2 ⟨hE, hb2⟩
    have Hb2 := Lib.hid (Hb1.out.trans (hb2.mono Hb1.out.size))
    have HS2 := Lib.hid (HS.out.below hb2)
    clear hb2
    rcases hE with ⟨c, i, hE, rfl⟩ | ⟨hE, v, rfl, ho⟩
    · have Hp := Lib.hid (show parseL s = ([], some (c, i)) from by rw [Hdef.out, hE])
      clear hE
      simp only [errVal]
      go_wp2
      refine bodyPost_ret (v := .tuple #[.slice none 0 0, errVal (some ((c : Int), some (i : Int)))]) (by simp [results, Tryz.results20, go_sem, errVal]) rfl ?_
      exact ⟨parseRes_err Hp.out rfl, Hb2.out⟩
    · rw [hE] at Hdef
      dsimp only at Hdef
      clear hE
      have Hln := Lib.hid (show (partsL ls).length = ls.length from by simp [partsL])
      have ho' := own_mono ho Hb1.out.size
      obtain ⟨aL, cL, rfl, hI⟩ := ivs_own ho' (partsL_lt ls)
      have Ho := Lib.hid ho'
      have HI := Lib.hid hI
      have HC := Lib.hid (check_any aL ls.length cL (partsL ls) w2 hI (HD.out _ Hb2.out))
      clear ho ho' hI
      go_wp2_with fail
      refine HC.out.mono ?_
      rintro e w3 ⟨rfl, hb3⟩
      have Hb3 := Lib.hid (Hb2.out.trans (hb3.mono Hb2.out.size))
      have HS3 := Lib.hid (HS2.out.below hb3)
      have HI3 := Lib.hid (HI.out.below hb3)
      have Ho3 := Lib.hid (own_below Ho.out hb3)
      clear hb3 HC HS2 HI Ho
      rcases hck : ck (partsL ls) with _ | ⟨c, i⟩
      · rw [hck] at Hdef
        dsimp only at Hdef
        have Hck := Lib.hid hck
        clear hck
        obtain ⟨n, hn⟩ : ∃ n, n = ls.length := ⟨_, rfl⟩
        have Hn := Lib.hid hn
        have Hz3 := Lib.hid Hb3.out.size
        rw [← hn] at HS3 HI3 Ho3 Hln Hpn ⊢
        clear hn
        simp only [errOf, errVal]
        go_wp2
        go_loopw [8, 9, 29] (fun _ _ i wr => ∃ k : Nat, k ≤ n ∧ i = .int .i64 k ∧ Below w3.heap.size w3 wr ∧ Hid (∀ j, j < k → dblAt ls j = none)) (fun _ _ i _ => n - (intOf i).toNat)
        case atStart => exact ⟨0, by omega, rfl, Below.refl _ _, fun j h => by omega⟩
        case round =>
          obtain ⟨k, hk, rfl, hb, ht⟩ := hrel
          have Hb := Lib.hid hb; clear hb
          have hnn := Hpn.out
          by_cases hkn : k < n
          · have hkl : k < ls.length := by rw [← Hn.out]; exact hkn
            obtain ⟨bI, oI, rfl, hcI⟩ := (HI3.out.below Hb.out).cells (by omega)
            obtain ⟨hc1, hc2⟩ := hcI k hkn
            rw [nthI_parts ls k hkl] at hc1 hc2
            obtain ⟨bS, oS, rfl, hcS⟩ := (HS3.out.below Hb.out).cells (by omega)
            have hs1 := hcS k hkn
            clear hcI hcS
            have hA := (Below.refl _ wr).alloc (Nat.le_refl _) (.cells #[.int .u64 (((partR (nthT ls k)).2.1 : Nat) : Int), .int .u64 (((partR (nthT ls k)).2.2 : Nat) : Int)] 31)
            have hs2 := (hA.cell (p := ⟨bS, oS + k, none⟩) (cell_lt hs1)).trans hs1
            have Hin := Lib.hid (show dblAt ls k = if (partR (nthT ls k)).2.1 = (partR (nthT ls k)).2.2 ∧ Lib.contains (nthT ls k) [45] = true then some (15, k) else none from rfl)
            have hCt := Lib.hid (fun W (h : Below w.heap.size w W) => contains_any (nthT ls k) (Hpl.out _ (by rw [nthT_get hkl]; exact List.getElem_mem _)) W (HM.out W h))
            have HbA := Lib.hid (Hb3.out.trans ((Hb.out.alloc Hb.out.size (.cells #[.int .u64 (((partR (nthT ls k)).2.1 : Nat) : Int), .int .u64 (((partR (nthT ls k)).2.2 : Nat) : Int)] 31)).mono Hz3.out))
            have HbB := Lib.hid (Hb.out.alloc Hb.out.size (.cells #[.int .u64 (((partR (nthT ls k)).2.1 : Nat) : Int), .int .u64 (((partR (nthT ls k)).2.2 : Nat) : Int)] 31))
            clear hA hs1 hkl
            generalize nthT ls k = p at *
            generalize partR p = r at *
            obtain ⟨c, x, y⟩ := r
            dsimp only at hc1 hc2 hs2 Hin HbA HbB
            by_cases hxy : x = y
            · subst hxy
              go_wp2_with fail
              refine (hCt.out _ HbA.out).mono ?_
              rintro e w4 ⟨rfl, rfl⟩
              by_cases hct : Lib.contains p [45] = true
              · have Hr := Lib.hid (show dblE ls = some (15, k) from firstS_some (by rw [← Hn.out]; exact hkn) ht.out (by rw [Hin.out]; exact if_pos (by first | exact ⟨rfl, hct⟩ | exact ⟨trivial, hct⟩)))
                have Hp := Lib.hid (show parseL s = ([], some (15, k)) from by rw [Hdef.out, Hr.out])
                rw [hct]
                clear hct
                go_wp2_with fail
                refine (new_any 15 k _).mono ?_
                rintro e w5 ⟨rfl, rfl⟩
                go_wp2_with fail
                refine bodyPost_ret (v := .tuple #[.slice none 0 0, errVal (errNew 15 k)]) (by simp [results, Tryz.results20, go_sem]) rfl ?_
                exact ⟨parseRes_err Hp.out rfl, HbA.out⟩
              · have Hin' := Lib.hid (show dblAt ls k = none from by rw [Hin.out, if_neg (fun h => hct h.2)])
                have hct' : Lib.contains p [45] = false := by simpa using hct
                rw [hct']
                clear hct hct'
                go_wp2
                go_roundw
                case rel => exact ⟨k + 1, by omega, by go_num, HbB.out, fun j hj => by
                  rcases Nat.lt_or_ge j k with h | h
                  · exact ht.out j h
                  · rw [show j = k from (by omega)]; exact Hin'.out⟩
                case measure => simp [intOf]; omega
            · have Hin' := Lib.hid (show dblAt ls k = none from by rw [Hin.out, if_neg (fun h => hxy h.1)])
              have hne : ((x : Int) == (y : Int)) = false := by rw [beq_eq_false_iff_ne]; omega
              go_wp2
              go_roundw
              case rel => exact ⟨k + 1, by omega, by go_num, HbB.out, fun j hj => by
                rcases Nat.lt_or_ge j k with h | h
                · exact ht.out j h
                · rw [show j = k from (by omega)]; exact Hin'.out⟩
              case measure => simp [intOf]; omega
          · obtain rfl : k = n := by omega
            have Hr := Lib.hid (show dblE ls = none from firstS_none (by rw [← Hn.out]; exact ht.out))
            have Hp := Lib.hid (show parseL s = (partsL ls, none) from by rw [Hdef.out, Hr.out])
            go_wp2
            refine bodyPost_ret (v := .tuple #[.slice aL k cL, .nilIface]) (by simp [results, Tryz.results20, go_sem]) rfl ?_
            refine ⟨⟨_, by rw [Hp.out]; rfl, ?_⟩, Hb3.out.trans (Hb.out.mono Hz3.out)⟩
            rw [Hp.out]
            have h := own_below Ho3.out Hb.out
            rw [Hln.out]
            exact h
      · rw [hck] at Hdef
        dsimp only at Hdef
        have Hp := Lib.hid Hdef.out
        clear hck
        simp only [errOf, errVal]
        go_wp2
        refine bodyPost_ret (v := .tuple #[.slice none 0 0, errVal (some ((c : Int), some (i : Int)))]) (by simp [results, Tryz.results20, go_sem, errVal]) rfl ?_
        exact ⟨parseRes_err Hp.out rfl, Hb3.out⟩

end Go.Proofs.YtbiohohclnaocaaGreatDoor
