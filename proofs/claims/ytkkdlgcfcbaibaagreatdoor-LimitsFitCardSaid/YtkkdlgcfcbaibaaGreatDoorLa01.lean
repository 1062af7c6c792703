/- Walks and laws, joined: La01. -/
import Derived.Below
import Derived.Test.YtkkdlgcfcbaibaaGreatDoorRows
import Derived.WalkKit
import Derived.Lib.Hide
import Derived.Lib.SmallJoins
import Derived.Lib.SlBytesConst
import Derived.LaidEql
import Derived.Stop.Asserts
import Derived.RowKitTokens
set_option linter.unusedVariables false
namespace Go.Proofs.YtkkdlgcfcbaibaaGreatDoor
section
open Go.RowKit
def nth (l : List Nat) (k : Nat) : Nat := l.getD k 0
def u8s (l : List Nat) : List Value := l.map fun x => Value.int .u8 ((x : Nat) : Int)
theorem u8s_append (a b : List Nat) : u8s (a ++ b) = u8s a ++ u8s b := by simp [u8s]
theorem u8s_length (a : List Nat) : (u8s a).length = a.length := by simp [u8s]
theorem u8s_get (l : List Nat) (i : Nat) (h : i < l.length) : (u8s l)[i]? = some (.int .u8 ((nth l i : Nat) : Int)) := by simp [u8s, nth, h]
structure Byts (w : World) (a : Option Addr) (n cap : Nat) (l : List Nat) : Prop where
 len : l.length = n
 lt : ∀ x ∈ l, x < 256
 room : n ≤ cap
 most : cap ≤ 9223372036854775807
 nilc : a = none → cap = 0
 cells : 0 < n → ∃ b o, a = some ⟨b, o, none⟩ ∧ ∀ i, i < n → w.cell? ⟨b, o + i, none⟩ = some (.int .u8 ((nth l i : Nat) : Int))
theorem cell_lt {w : World} {p : Addr} {v : Value} (h : w.cell? p = some v) : p.block < w.heap.size := by
 rcases Nat.lt_or_ge p.block w.heap.size with h' | h'
 · exact h'
 · simp [World.cell?, Array.getElem?_eq_none h'] at h
theorem Byts.below {w w' : World} {a : Option Addr} {n cap : Nat} {l : List Nat} (h : Byts w a n cap l) (hb : Below w.heap.size w w') : Byts w' a n cap l := by
 refine ⟨h.len, h.lt, h.room, h.most, h.nilc, fun hn => ?_⟩
 obtain ⟨b, o, ha, hc⟩ := h.cells hn
 refine ⟨b, o, ha, fun i hi => ?_⟩
 have := hc i hi
 rw [← this]
 exact hb.cell (p := ⟨b, o + i, none⟩) (cell_lt this)
theorem ret_int {k : IntKind} {a b : Int} (h : a = b) : Ending.returned (.int k a) = .returned (.int k b) := by rw [h]
theorem ret_bool {a b : Bool} (h : a = b) : Ending.returned (.bool a) = .returned (.bool b) := by rw [h]
theorem add_at (b o i : Nat) : ((⟨b, o, none⟩ : Addr).add i) = ⟨b, o + i, none⟩ := by
 unfold Addr.add; split
 · subst_vars; rfl
 · simp
theorem grownBy_trans {w w1 w2 : World} {row : Option Nat} (h : w.grownBy w1 row) (k : w1.grownBy w2 row) : w.grownBy w2 row :=
 ⟨k.os.trans h.os, k.tape.trans h.tape, k.output.trans h.output, Nat.le_trans h.size k.size, fun i hi hne => (k.block i (Nat.lt_of_lt_of_le hi h.size) hne).trans (h.block i hi hne)⟩
theorem byts_own {w : World} {base n : Nat} {T : TypeId} {v : Value} {l : List Nat} (h : w.ownsRow base T 1 v n (u8s l)) (hl : ∀ x ∈ l, x < 256) : ∃ a cap, v = .slice a n cap ∧ Byts w a n cap l := by
 have hlen : l.length = n := by have := h.1; simpa [u8s] using this
 rcases h.2 with ⟨rfl, rfl⟩ | ⟨g, cap, cur, rfl, hg, hh, hnc, hcm, _⟩
 · exact ⟨none, 0, rfl, hlen, hl, by omega, by omega, fun _ => rfl, fun h => by omega⟩
 · refine ⟨_, _, rfl, hlen, hl, hnc, by unfold maxLen at hcm; omega, (by intro h; cases h), fun hn => ⟨g, 0, rfl, fun i hi => ?_⟩⟩
   have hc := h.cells (g := g) rfl i (.int .u8 ((nth l i : Nat) : Int)) (u8s_get l i (by omega))
   rw [add_at] at hc
   exact hc
theorem own_below {w w' : World} {base size n : Nat} {e : TypeId} {v : Value} {xs : List Value} (h : w.ownsRow base e size v n xs) (hb : Below w.heap.size w w') : w'.ownsRow base e size v n xs := by
 refine ⟨h.1, ?_⟩
 rcases h.2 with h | ⟨g, cap, cur, hv, hg, hh, r⟩
 · exact .inl h
 · exact .inr ⟨g, cap, cur, hv, hg, by rw [hb.block g (Array.getElem?_eq_some_iff.1 hh).1]; exact hh, r⟩
theorem Byts.news {w : World} {x : Addr} {n cap : Nat} {l : List Nat} (h : Byts w (some x) n cap l) : ∀ j u, (u8s l)[j]? = some u → w.cell? (x.add j) = some u := by
 intro j u hu
 have hj : j < l.length := by
  rcases Nat.lt_or_ge j l.length with h' | h'
  · exact h'
  · rw [List.getElem?_eq_none (by rw [u8s_length]; exact h')] at hu; cases hu
 rw [u8s_get l j hj] at hu
 cases hu
 obtain ⟨b, o, ha, hc⟩ := h.cells (by rw [← h.len]; omega)
 cases ha
 rw [add_at]
 exact hc j (by rw [← h.len]; omega)
theorem Tryz.info_u8 : (Tryz.prog.info? 5).map (fun i => (i.zero, i.size, i.bytes)) = some (some (.int .u8 0), 1, 1) := by kernel_rfl
theorem wpList_append_hr {P : Program} {w : World} {ops : Array Oper} {rest : List Oper} {o : Oper} {a : Act} {Q : Exit → Act → World → Prop} (s x : Operand) (t : TypeId)
 (ho : o.op = .call { callee := .builtin .append, args := #[s, x], argTypes := #[t, t] }) (hw : Region.wanted o (yielded ops a.tmps) = true)
 (v u : Value) (hs : a.eval s = v) (hx : a.eval x = u) (v' : Value) (w' : World) (hrun : (Builtin.append_ #[t, t] o.type #[v, u]).run P w = .ok v' w')
 (h : wpList P ops Q rest (a.put o.dst v') w') : wpList P ops Q (o :: rest) a w := by
 refine wpList_step fun K hK => ?_
 rw [if_pos hw]
 unfold Oper.wp
 simp [execOp, ho, resolve, invoke, builtin, hs, hx, hrun, Result.andThen]
 exact hK _ _ h
end
section
abbrev Iv := Nat × Nat
def mem (l : List Iv) (x : Nat) : Bool := l.any fun s => decide (s.1 ≤ x) && decide (x ≤ s.2)
theorem mem_iff {l : List Iv} {x : Nat} : mem l x = true ↔ ∃ s ∈ l, s.1 ≤ x ∧ x ≤ s.2 := by simp [mem]
theorem mem_nil (x : Nat) : mem [] x = false := rfl
theorem mem_cons (s : Iv) (l : List Iv) (x : Nat) : mem (s :: l) x = (decide (s.1 ≤ x) && decide (x ≤ s.2) || mem l x) := rfl
theorem mem_append (a b : List Iv) (x : Nat) : mem (a ++ b) x = (mem a x || mem b x) := by simp [mem]
theorem mem_false {l : List Iv} {x : Nat} : mem l x = false ↔ ∀ s ∈ l, ¬ (s.1 ≤ x ∧ x ≤ s.2) := by
 rw [← Bool.not_eq_true, mem_iff]
 simp
def Good : List Iv → Prop
 | [] => True
 | [s] => s.1 ≤ s.2
 | s :: t :: l => s.1 ≤ s.2 ∧ s.2 + 1 < t.1 ∧ Good (t :: l)
theorem Good.tail {s : Iv} {l : List Iv} (h : Good (s :: l)) : Good l := by
 cases l with
 | nil => trivial
 | cons t l => exact h.2.2
theorem Good.head {s : Iv} {l : List Iv} (h : Good (s :: l)) : s.1 ≤ s.2 := by
 cases l with
 | nil => exact h
 | cons t l => exact h.1
theorem Good.lower : ∀ {s : Iv} {l : List Iv}, Good (s :: l) → ∀ t ∈ l, s.2 + 1 < t.1
 | s, [], _, t, ht => by simp at ht
 | s, u :: l, h, t, ht => by
   rcases List.mem_cons.1 ht with rfl | ht
   · exact h.2.1
   · have h1 := Good.lower h.2.2 t ht
     have h2 := h.2.2.head
     have h3 := h.2.1
     omega
theorem Good.ok : ∀ {l : List Iv}, Good l → ∀ t ∈ l, t.1 ≤ t.2
 | [], _, t, ht => by simp at ht
 | s :: l, h, t, ht => by
   rcases List.mem_cons.1 ht with rfl | ht
   · exact h.head
   · exact Good.ok h.tail t ht
theorem good_cons {s : Iv} {l : List Iv} (h1 : s.1 ≤ s.2) (h2 : ∀ t ∈ l, s.2 + 1 < t.1) (h : Good l) : Good (s :: l) := by
 cases l with
 | nil => exact h1
 | cons t l => exact ⟨h1, h2 t (List.mem_cons_self ..), h⟩
theorem Good.mem_lower {s : Iv} {l : List Iv} (h : Good (s :: l)) {x : Nat} (hx : mem l x = true) : s.2 + 1 < x := by
 obtain ⟨t, ht, h1, h2⟩ := mem_iff.1 hx
 have := h.lower t ht
 omega
theorem Good.mem_least {s : Iv} {l : List Iv} (h : Good (s :: l)) {x : Nat} (hx : mem (s :: l) x = true) : s.1 ≤ x := by
 obtain ⟨t, ht, h1, h2⟩ := mem_iff.1 hx
 rcases List.mem_cons.1 ht with rfl | ht
 · exact h1
 · have := h.lower t ht
   have := h.head
   omega
theorem mem_head {s : Iv} {l : List Iv} {x : Nat} (h1 : s.1 ≤ x) (h2 : x ≤ s.2) : mem (s :: l) x = true :=
 mem_iff.2 ⟨s, List.mem_cons_self .., h1, h2⟩
theorem mem_tail {s : Iv} {l : List Iv} {x : Nat} (h : mem l x = true) : mem (s :: l) x = true := by
 rw [mem_cons, h, Bool.or_true]
theorem mem_tail_of {s : Iv} {l : List Iv} {x : Nat} (h : mem (s :: l) x = true) (hs : s.2 < x) : mem l x = true := by
 rw [mem_cons] at h
 have : decide (x ≤ s.2) = false := by rw [decide_eq_false_iff_not]; omega
 rw [this, Bool.and_false, Bool.false_or] at h
 exact h
theorem good_ext : ∀ {l l' : List Iv}, Good l → Good l' → (∀ x, mem l x = mem l' x) → l = l'
 | [], [], _, _, _ => rfl
 | [], t :: l', _, h', e => by
   have := (e t.1).symm.trans rfl
   rw [mem_nil, mem_head (Nat.le_refl _) h'.head] at this
   cases this
 | s :: l, [], h, _, e => by
   have := e s.1
   rw [mem_nil, mem_head (Nat.le_refl _) h.head] at this
   cases this
 | s :: l, t :: l', h, h', e => by
   have e1 : s.1 = t.1 := by
    have a := h'.mem_least (x := s.1) (by rw [← e]; exact mem_head (Nat.le_refl _) h.head)
    have b := h.mem_least (x := t.1) (by rw [e]; exact mem_head (Nat.le_refl _) h'.head)
    omega
   have k1 := h.head
   have k2 := h'.head
   have le1 : s.2 ≤ t.2 := by
    refine Nat.le_of_not_lt fun hlt => ?_
    have m : mem (t :: l') (t.2 + 1) = true := by rw [← e]; exact mem_head (by omega) (by omega)
    have := h'.mem_lower (mem_tail_of m (by omega))
    omega
   have le2 : t.2 ≤ s.2 := by
    refine Nat.le_of_not_lt fun hlt => ?_
    have m : mem (s :: l) (s.2 + 1) = true := by rw [e]; exact mem_head (by omega) (by omega)
    have := h.mem_lower (mem_tail_of m (by omega))
    omega
   have e2 : s.2 = t.2 := by omega
   have es : s = t := Prod.ext e1 e2
   subst es
   congr 1
   refine good_ext h.tail h'.tail fun x => ?_
   rw [Bool.eq_iff_iff]
   constructor
   · intro hm
     have := h.mem_lower hm
     exact mem_tail_of (by rw [← e]; exact mem_tail hm) (by omega)
   · intro hm
     have := h'.mem_lower hm
     exact mem_tail_of (by rw [e]; exact mem_tail hm) (by omega)
theorem good_snoc : ∀ {l : List Iv} {s : Iv}, Good l → s.1 ≤ s.2 → (∀ t ∈ l, t.2 + 1 < s.1) → Good (l ++ [s])
 | [], s, _, hs, _ => hs
 | t :: l, s, h, hs, hl => by
   refine good_cons h.head ?_ (good_snoc h.tail hs fun u hu => hl u (List.mem_cons_of_mem _ hu))
   intro u hu
   rcases List.mem_append.1 hu with hu | hu
   · exact h.lower u hu
   · simp at hu; subst hu; exact hl t (List.mem_cons_self ..)
theorem good_init : ∀ {l : List Iv} {s : Iv}, Good (l ++ [s]) → Good l ∧ s.1 ≤ s.2 ∧ ∀ t ∈ l, t.2 + 1 < s.1
 | [], s, h => ⟨trivial, h, by simp⟩
 | t :: l, s, h => by
   obtain ⟨h1, h2, h3⟩ := good_init (l := l) h.tail
   refine ⟨good_cons h.head (fun u hu => h.lower u (by simp [hu])) h1, h2, ?_⟩
   intro u hu
   rcases List.mem_cons.1 hu with rfl | hu
   · exact h.lower s (by simp)
   · exact h3 u hu
theorem good_widen {l : List Iv} {s : Iv} {x : Nat} (h : Good (l ++ [s])) (hx : s.2 ≤ x) : Good (l ++ [(s.1, x)]) := by
 obtain ⟨h1, h2, h3⟩ := good_init h
 exact good_snoc h1 (Nat.le_trans h2 hx) h3
def putL (l : List Iv) (s : Iv) : List Iv :=
 match l.getLast? with
 | none => [s]
 | some t => if t.2 + 1 = s.1 then l.dropLast ++ [(t.1, s.2)] else l ++ [s]
theorem putL_nil (s : Iv) : putL [] s = [s] := rfl
theorem putL_snoc (l : List Iv) (t s : Iv) : putL (l ++ [t]) s = if t.2 + 1 = s.1 then l ++ [(t.1, s.2)] else l ++ [t] ++ [s] := by
 unfold putL
 simp
theorem nil_or_snoc {α : Type} (l : List α) : l = [] ∨ ∃ a t, l = a ++ [t] := by
 rcases List.eq_nil_or_concat l with h | ⟨a, t, h⟩
 · exact .inl h
 · exact .inr ⟨a, t, by simpa using h⟩
theorem putL_good {l : List Iv} {s : Iv} (h : Good l) (hs : s.1 ≤ s.2) (hl : ∀ t ∈ l, t.2 < s.1) : Good (putL l s) ∧ (∀ x, mem (putL l s) x = (mem l x || (decide (s.1 ≤ x) && decide (x ≤ s.2)))) ∧ ∀ t ∈ putL l s, t.2 ≤ s.2 := by
 rcases nil_or_snoc l with rfl | ⟨a, t, rfl⟩
 · refine ⟨hs, fun x => ?_, ?_⟩
   · rw [putL_nil, mem_cons]; simp [mem_nil]
   · intro t ht; simp [putL_nil] at ht; subst ht; exact Nat.le_refl _
 · obtain ⟨h1, h2, h3⟩ := good_init h
   have ht := hl t (by simp)
   rw [putL_snoc]
   by_cases e : t.2 + 1 = s.1
   · rw [if_pos e]
     refine ⟨good_widen h (by omega), fun x => ?_, ?_⟩
     · simp only [mem_append, mem_cons, mem_nil, Bool.or_false]
       rw [Bool.or_assoc]
       congr 1
       rw [Bool.eq_iff_iff]
       simp
       omega
     · intro u hu
       rcases List.mem_append.1 hu with hu | hu
       · have := hl u (by simp [hu]); omega
       · simp at hu; subst hu; exact Nat.le_refl _
   · rw [if_neg e]
     refine ⟨good_snoc h hs ?_, fun x => ?_, ?_⟩
     · intro u hu
       rcases List.mem_append.1 hu with hu | hu
       · have := h3 u hu; omega
       · simp at hu; subst hu; omega
     · simp only [mem_append, mem_cons, mem_nil, Bool.or_false]
     · intro u hu
       rcases List.mem_append.1 hu with hu | hu
       · have := hl u hu; omega
       · simp at hu; subst hu; exact Nat.le_refl _
def takeL : List (Iv × Bool) → List Iv → List Iv
 | [], out => out
 | (s, b) :: ps, out => takeL ps (if b then putL out s else out)
def Cover (top : Nat) : Nat → List (Iv × Bool) → Prop
 | _, [] => False
 | a, [(s, _)] => s.1 = a ∧ s.1 ≤ s.2 ∧ s.2 = top
 | a, (s, _) :: p :: ps => s.1 = a ∧ s.1 ≤ s.2 ∧ s.2 < top ∧ Cover top (s.2 + 1) (p :: ps)
theorem takeL_good {top : Nat} : ∀ {ps : List (Iv × Bool)} {a : Nat} {out : List Iv}, Cover top a ps → Good out → (∀ t ∈ out, t.2 < a) →
 Good (takeL ps out) ∧ ∀ x, mem (takeL ps out) x = (mem out x || ps.any fun p => p.2 && (decide (p.1.1 ≤ x) && decide (x ≤ p.1.2)))
 | [], a, out, hc, _, _ => hc.elim
 | [(s, b)], a, out, hc, h, hl => by
   obtain ⟨h1, h2, h3⟩ := hc
   cases b with
   | false => exact ⟨h, fun x => by simp [takeL]⟩
   | true =>
    obtain ⟨g1, g2, -⟩ := putL_good h h2 (by rw [h1]; exact hl)
    exact ⟨g1, fun x => by simp [takeL, g2]⟩
 | (s, b) :: p :: ps, a, out, hc, h, hl => by
   obtain ⟨h1, h2, h3, h4⟩ := hc
   cases b with
   | false =>
    obtain ⟨g1, g2⟩ := takeL_good (out := out) h4 h (fun t ht => by have := hl t ht; omega)
    refine ⟨g1, fun x => ?_⟩
    have := g2 x
    rw [takeL]
    simp only [Bool.false_eq_true, if_false]
    rw [this]
    simp
   | true =>
    obtain ⟨k1, k2, k3⟩ := putL_good h h2 (by rw [h1]; exact hl)
    obtain ⟨g1, g2⟩ := takeL_good (out := putL out s) h4 k1 (fun t ht => by have := k3 t ht; omega)
    refine ⟨g1, fun x => ?_⟩
    have := g2 x
    rw [takeL]
    simp only [if_true]
    rw [this, k2]
    simp [Bool.or_assoc]
end
section
open Go.RowKit Go.Extern.Stop Go.Stop Go.Extern
theorem rlm (z : Sem Value) (f : TypeId → Addr → Nat → Nat → Sem Value) (v : Value) :
 ReflectliteValue.method z f #[v] = (do match ← ReflectliteValue.parts v with | none => z | some (t, a, fl) => f t a fl (fl % 32)) := rfl
theorem rls (v x : Value) : ReflectliteValue.set #[v, x] = (do
 let (some (dst, a, fl), some (src, b, _)) := (← ReflectliteValue.parts v, ← ReflectliteValue.parts x)
  | unsupported (.noEntry "extern/(internal/reflectlite.Value).Set.zeroValue")
 if fl / ReflectliteValue.flagAddr % 2 == 0 then unsupported (.noEntry "extern/(internal/reflectlite.Value).Set.unaddressable")
 let val ← loadVar src b
 if ← Rtype.directlyAssignable dst src then storeVar dst a val
 else if ← Rtype.implements dst src then
  if (← Rtype.kind src) == 20 then
   match val with
   | .nilIface => unsupported (.noEntry "extern/reflectlite: a nil value of one interface type handed on as a value of another")
   | _ => storeVar dst a val
  else storeVar dst a (.iface src val)
 else panicString ("reflectlite.Set: value of type " ++ (← Rtype.spelt src) ++ " is not assignable to type " ++ (← Rtype.spelt dst))
 pure (.tuple #[])) := rfl
theorem Tryz.methodKind (h : Value) (w : World) : (Go.method 420 186 (.agg #[h]) "Kind").run Tryz.prog w = .ok (257, h) w := by kernel_rfl
theorem Tryz.methodElem (h : Value) (w : World) : (Go.method 420 186 (.agg #[h]) "Elem").run Tryz.prog w = .ok (270, .agg #[h]) w := by kernel_rfl
theorem Tryz.methodImplements (h : Value) (w : World) : (Go.method 420 186 (.agg #[h]) "Implements").run Tryz.prog w = .ok (271, .agg #[h]) w := by kernel_rfl
theorem Tryz.methodAssignableTo (h : Value) (w : World) : (Go.method 420 186 (.agg #[h]) "AssignableTo").run Tryz.prog w = .ok (268, .agg #[h]) w := by kernel_rfl
theorem Tryz.valueOfPE (t : Addr) (w : World) : (ReflectliteValue.unpack (.iface 97 (.pointer (some t)))).run Tryz.prog w
 = .ok (.agg #[.pointer (some ⟨2, 97, none⟩), .pointer (some ⟨w.heap.size, 0, none⟩), .int .u64 150]) (w.alloc (.cells #[.pointer (some t)] 97)) := by kernel_rfl
theorem Tryz.typePE (a : Addr) (w : World) : (ReflectliteValue.methodAny (ReflectliteValue.valueError "reflectlite.Value.Type" 0) (fun t _ _ _ => ReflectliteType.toType t) #[.agg #[.pointer (some ⟨2, 97, none⟩), .pointer (some a), .int .u64 150]]).run Tryz.prog w
 = .ok (.iface 186 (.agg #[.pointer (some ⟨2, 97, none⟩)])) w := by kernel_rfl
theorem Tryz.kindPE (w : World) : ((ReflectliteType.abiMethod fun t => (fun a : Nat => Value.int IntKind.u8 (a : Int)) <$> Rtype.kind t) #[.pointer (some ⟨2, 97, none⟩)]).run Tryz.prog w = .ok (.int .u8 22) w := by kernel_rfl
theorem Tryz.kindE (w : World) : ((ReflectliteType.abiMethod fun t => (fun a : Nat => Value.int IntKind.u8 (a : Int)) <$> Rtype.kind t) #[.pointer (some ⟨2, 50, none⟩)]).run Tryz.prog w = .ok (.int .u8 2) w := by kernel_rfl
theorem Tryz.partsPE (a : Addr) (w : World) : (ReflectliteValue.parts (.agg #[.pointer (some ⟨2, 97, none⟩), .pointer (some a), .int .u64 150])).run Tryz.prog w = .ok (some (97, a, 150)) w := by kernel_rfl
theorem Tryz.isNilPE (a p : Addr) (W : World) (ha : W.cell? a = some (.pointer (some p))) :
 (ReflectliteValue.method (ReflectliteValue.valueError "reflectlite.Value.IsNil" 0) ReflectliteValue.isNil #[.agg #[.pointer (some ⟨2, 97, none⟩), .pointer (some a), .int .u64 150]]).run Tryz.prog W = .ok (.bool false) W := by
 rw [rlm]
 simp only [Sem.run_bind, Tryz.partsPE, Result.andThen]
 simp [ReflectliteValue.isNil, loadVar, isAgg, underlying, Tryz.underlying97, ha, Result.andThen]
theorem Tryz.elemPE (w : World) : (ReflectliteType.method ReflectliteType.elem #[.agg #[.pointer (some ⟨2, 97, none⟩)]]).run Tryz.prog w = .ok (.iface 186 (.agg #[.pointer (some ⟨2, 50, none⟩)])) w := by kernel_rfl
theorem Tryz.implementsE (w : World) : (ReflectliteType.relation "Implements" ReflectliteType.implements_ #[.agg #[.pointer (some ⟨2, 50, none⟩)], .iface 186 (.agg #[.pointer (some ⟨2, 41, none⟩)])]).run Tryz.prog w = .ok (.bool true) w := by kernel_rfl
theorem Tryz.typeOfE (v : Value) (w : World) : (ReflectliteType.typeOf #[.iface 50 v]).run Tryz.prog w = .ok (.iface 186 (.agg #[.pointer (some ⟨2, 50, none⟩)])) w := by kernel_rfl
theorem Tryz.assignableEE (w : World) : (ReflectliteType.relation "AssignableTo" ReflectliteType.assignableTo #[.agg #[.pointer (some ⟨2, 50, none⟩)], .iface 186 (.agg #[.pointer (some ⟨2, 50, none⟩)])]).run Tryz.prog w = .ok (.bool true) w := by kernel_rfl
theorem Tryz.valueOfE (c : Int) (w : World) : (ReflectliteValue.unpack (.iface 50 (.int .i64 c))).run Tryz.prog w
 = .ok (.agg #[.pointer (some ⟨2, 50, none⟩), .pointer (some ⟨w.heap.size, 0, none⟩), .int .u64 130]) (w.alloc (.cells #[.int .i64 c] 50)) := by kernel_rfl
theorem Tryz.elemOfPE (w : World) : (Rtype.elem? 97).run Tryz.prog w = .ok (some 50) w := by kernel_rfl
theorem Tryz.mkE (p : Addr) (w : World) : (ReflectliteValue.mk 50 p ReflectliteValue.flagAddr).run Tryz.prog w = .ok (.agg #[.pointer (some ⟨2, 50, none⟩), .pointer (some p), .int .u64 386]) w := by kernel_rfl
theorem Tryz.elemVPE (a p : Addr) (W : World) (ha : W.cell? a = some (.pointer (some p))) :
 (ReflectliteValue.method (ReflectliteValue.valueError "reflectlite.Value.Elem" 0) ReflectliteValue.elem #[.agg #[.pointer (some ⟨2, 97, none⟩), .pointer (some a), .int .u64 150]]).run Tryz.prog W
   = .ok (.agg #[.pointer (some ⟨2, 50, none⟩), .pointer (some p), .int .u64 386]) W := by
 rw [rlm]
 simp only [Sem.run_bind, Tryz.partsPE, Result.andThen]
 simp [ReflectliteValue.elem, loadVar, isAgg, underlying, Tryz.underlying97, ha, Result.andThen, Tryz.elemOfPE, Tryz.mkE]
theorem Tryz.partsEa (a : Addr) (w : World) : (ReflectliteValue.parts (.agg #[.pointer (some ⟨2, 50, none⟩), .pointer (some a), .int .u64 386])).run Tryz.prog w = .ok (some (50, a, 386)) w := by kernel_rfl
theorem Tryz.partsE (a : Addr) (w : World) : (ReflectliteValue.parts (.agg #[.pointer (some ⟨2, 50, none⟩), .pointer (some a), .int .u64 130])).run Tryz.prog w = .ok (some (50, a, 130)) w := by kernel_rfl
theorem Tryz.directE (w : World) : (Rtype.directlyAssignable 50 50).run Tryz.prog w = .ok true w := by kernel_rfl
theorem Tryz.setE (ta b : Addr) (c : Int) (old : Value) (W : World) (hb : W.cell? b = some (.int .i64 c)) (ht : W.cell? ta = some old) (hf : W.frozen? ta = false) :
 (ReflectliteValue.set #[.agg #[.pointer (some ⟨2, 50, none⟩), .pointer (some ta), .int .u64 386], .agg #[.pointer (some ⟨2, 50, none⟩), .pointer (some b), .int .u64 130]]).run Tryz.prog W
   = .ok (.tuple #[]) (W.setCell ta (.int .i64 c)) := by
 rw [rls]
 simp only [Sem.run_bind, Tryz.partsEa, Tryz.partsE, Result.andThen]
 simp [ReflectliteValue.flagAddr, loadVar, isAgg, underlying, Tryz.underlying50, hb, Result.andThen, Tryz.directE, storeVar, Value.cells, storeCells, Addr.add]
 rw [run_store Tryz.prog W ta _ _ (by rfl)]
 simp [ht, hf]
theorem Tryz.valueOfPF (t : Addr) (w : World) : (ReflectliteValue.unpack (.iface 113 (.pointer (some t)))).run Tryz.prog w
 = .ok (.agg #[.pointer (some ⟨2, 113, none⟩), .pointer (some ⟨w.heap.size, 0, none⟩), .int .u64 150]) (w.alloc (.cells #[.pointer (some t)] 113)) := by kernel_rfl
theorem Tryz.typePF (a : Addr) (w : World) : (ReflectliteValue.methodAny (ReflectliteValue.valueError "reflectlite.Value.Type" 0) (fun t _ _ _ => ReflectliteType.toType t) #[.agg #[.pointer (some ⟨2, 113, none⟩), .pointer (some a), .int .u64 150]]).run Tryz.prog w
 = .ok (.iface 186 (.agg #[.pointer (some ⟨2, 113, none⟩)])) w := by kernel_rfl
theorem Tryz.kindPF (w : World) : ((ReflectliteType.abiMethod fun t => (fun a : Nat => Value.int IntKind.u8 (a : Int)) <$> Rtype.kind t) #[.pointer (some ⟨2, 113, none⟩)]).run Tryz.prog w = .ok (.int .u8 22) w := by kernel_rfl
theorem Tryz.kindF (w : World) : ((ReflectliteType.abiMethod fun t => (fun a : Nat => Value.int IntKind.u8 (a : Int)) <$> Rtype.kind t) #[.pointer (some ⟨2, 99, none⟩)]).run Tryz.prog w = .ok (.int .u8 25) w := by kernel_rfl
theorem Tryz.partsPF (a : Addr) (w : World) : (ReflectliteValue.parts (.agg #[.pointer (some ⟨2, 113, none⟩), .pointer (some a), .int .u64 150])).run Tryz.prog w = .ok (some (113, a, 150)) w := by kernel_rfl
theorem Tryz.isNilPF (a p : Addr) (W : World) (ha : W.cell? a = some (.pointer (some p))) :
 (ReflectliteValue.method (ReflectliteValue.valueError "reflectlite.Value.IsNil" 0) ReflectliteValue.isNil #[.agg #[.pointer (some ⟨2, 113, none⟩), .pointer (some a), .int .u64 150]]).run Tryz.prog W = .ok (.bool false) W := by
 rw [rlm]
 simp only [Sem.run_bind, Tryz.partsPF, Result.andThen]
 simp [ReflectliteValue.isNil, loadVar, isAgg, underlying, Tryz.underlying113, ha, Result.andThen]
theorem Tryz.elemPF (w : World) : (ReflectliteType.method ReflectliteType.elem #[.agg #[.pointer (some ⟨2, 113, none⟩)]]).run Tryz.prog w = .ok (.iface 186 (.agg #[.pointer (some ⟨2, 99, none⟩)])) w := by kernel_rfl
theorem Tryz.implementsF (w : World) : (ReflectliteType.relation "Implements" ReflectliteType.implements_ #[.agg #[.pointer (some ⟨2, 99, none⟩)], .iface 186 (.agg #[.pointer (some ⟨2, 41, none⟩)])]).run Tryz.prog w = .ok (.bool true) w := by kernel_rfl
theorem Tryz.typeOfF (v : Value) (w : World) : (ReflectliteType.typeOf #[.iface 99 v]).run Tryz.prog w = .ok (.iface 186 (.agg #[.pointer (some ⟨2, 99, none⟩)])) w := by kernel_rfl
theorem Tryz.assignableFF (w : World) : (ReflectliteType.relation "AssignableTo" ReflectliteType.assignableTo #[.agg #[.pointer (some ⟨2, 99, none⟩)], .iface 186 (.agg #[.pointer (some ⟨2, 99, none⟩)])]).run Tryz.prog w = .ok (.bool true) w := by kernel_rfl
theorem Tryz.assignableFE (w : World) : (ReflectliteType.relation "AssignableTo" ReflectliteType.assignableTo #[.agg #[.pointer (some ⟨2, 99, none⟩)], .iface 186 (.agg #[.pointer (some ⟨2, 50, none⟩)])]).run Tryz.prog w = .ok (.bool false) w := by kernel_rfl
theorem Tryz.assignableEF (w : World) : (ReflectliteType.relation "AssignableTo" ReflectliteType.assignableTo #[.agg #[.pointer (some ⟨2, 50, none⟩)], .iface 186 (.agg #[.pointer (some ⟨2, 99, none⟩)])]).run Tryz.prog w = .ok (.bool false) w := by kernel_rfl
theorem Tryz.valueOfF (c a : Int) (w : World) : (ReflectliteValue.unpack (.iface 99 (.agg #[.int .i64 c, .int .i64 a]))).run Tryz.prog w
 = .ok (.agg #[.pointer (some ⟨2, 99, none⟩), .pointer (some ⟨w.heap.size, 0, none⟩), .int .u64 153]) (w.alloc (.cells #[.int .i64 c, .int .i64 a] 99)) := by kernel_rfl
theorem Tryz.elemOfPF (w : World) : (Rtype.elem? 113).run Tryz.prog w = .ok (some 99) w := by kernel_rfl
theorem Tryz.mkF (p : Addr) (w : World) : (ReflectliteValue.mk 99 p ReflectliteValue.flagAddr).run Tryz.prog w = .ok (.agg #[.pointer (some ⟨2, 99, none⟩), .pointer (some p), .int .u64 409]) w := by kernel_rfl
theorem Tryz.elemVPF (a p : Addr) (W : World) (ha : W.cell? a = some (.pointer (some p))) :
 (ReflectliteValue.method (ReflectliteValue.valueError "reflectlite.Value.Elem" 0) ReflectliteValue.elem #[.agg #[.pointer (some ⟨2, 113, none⟩), .pointer (some a), .int .u64 150]]).run Tryz.prog W
   = .ok (.agg #[.pointer (some ⟨2, 99, none⟩), .pointer (some p), .int .u64 409]) W := by
 rw [rlm]
 simp only [Sem.run_bind, Tryz.partsPF, Result.andThen]
 simp [ReflectliteValue.elem, loadVar, isAgg, underlying, Tryz.underlying113, ha, Result.andThen, Tryz.elemOfPF, Tryz.mkF]
theorem Tryz.partsFa (a : Addr) (w : World) : (ReflectliteValue.parts (.agg #[.pointer (some ⟨2, 99, none⟩), .pointer (some a), .int .u64 409])).run Tryz.prog w = .ok (some (99, a, 409)) w := by kernel_rfl
theorem Tryz.partsF (a : Addr) (w : World) : (ReflectliteValue.parts (.agg #[.pointer (some ⟨2, 99, none⟩), .pointer (some a), .int .u64 153])).run Tryz.prog w = .ok (some (99, a, 153)) w := by kernel_rfl
theorem Tryz.directF (w : World) : (Rtype.directlyAssignable 99 99).run Tryz.prog w = .ok true w := by kernel_rfl
theorem Tryz.infoF : (Tryz.prog.info? 99).map (·.size) = some 2 := by kernel_rfl
theorem Tryz.setF (tb b : Nat) (c a : Int) (o1 o2 : Value) (W : World) (hb0 : W.cell? ⟨b, 0, none⟩ = some (.int .i64 c)) (hb1 : W.cell? ⟨b, 1, none⟩ = some (.int .i64 a))
 (ht0 : W.cell? ⟨tb, 0, none⟩ = some o1) (ht1 : W.cell? ⟨tb, 1, none⟩ = some o2) (hf0 : W.frozen? ⟨tb, 0, none⟩ = false) (hf1 : W.frozen? ⟨tb, 1, none⟩ = false) :
 (ReflectliteValue.set #[.agg #[.pointer (some ⟨2, 99, none⟩), .pointer (some ⟨tb, 0, none⟩), .int .u64 409], .agg #[.pointer (some ⟨2, 99, none⟩), .pointer (some ⟨b, 0, none⟩), .int .u64 153]]).run Tryz.prog W
   = .ok (.tuple #[]) ((W.setCell ⟨tb, 0, none⟩ (.int .i64 c)).setCell ⟨tb, 1, none⟩ (.int .i64 a)) := by
 cases hq : Tryz.prog.info? 99 with
 | none => have := Tryz.infoF; simp [hq] at this
 | some i =>
  have hsz : i.size = 2 := by have := Tryz.infoF; simpa [hq] using this
  rw [rls]
  simp only [Sem.run_bind, Tryz.partsFa, Tryz.partsF, Result.andThen]
  simp [ReflectliteValue.flagAddr, loadVar, isAgg, underlying, Tryz.underlying99, Result.andThen, Tryz.directF, storeVar, Value.cells, storeCells, Addr.add, sizeOf, typeInfo, hq, hsz, loadCells, loadCellsFrom, hb0, hb1]
  have h1 : (W.setCell ⟨tb, 0, none⟩ (.int .i64 c)).cell? ⟨tb, 1, none⟩ = some o2 := by
   rw [World.cell?_setCell_other _ _ _ _ (by simp)]; exact ht1
  have h2 : (W.setCell ⟨tb, 0, none⟩ (.int .i64 c)).frozen? ⟨tb, 1, none⟩ = false := by
   rw [World.frozen?_setCell]; exact hf1
  rw [run_store Tryz.prog W ⟨tb, 0, none⟩ _ _ (by rfl)]
  simp only [ht0, hf0, Bool.false_eq_true, ↓reduceIte]
  rw [run_store Tryz.prog _ ⟨tb, 1, none⟩ _ _ (by rfl)]
  simp [h1, h2]
theorem Tryz.methodUnF (v : Value) (w : World) : (Go.method 420 99 v "Unwrap").run Tryz.prog w = .ok (261, v) w := by kernel_rfl
theorem Tryz.asAsE (v : Value) (xT : TypeId) (w : World) : (Instr.typeAssert (.iface 50 v) xT 190 true).run Tryz.prog w = .ok (.tuple #[.nilIface, .bool false]) w :=
 run_typeAssert_lacksB Tryz.underlying190 (by kernel_rfl) (by kernel_rfl) v xT w
theorem Tryz.asAsF (v : Value) (xT : TypeId) (w : World) : (Instr.typeAssert (.iface 99 v) xT 190 true).run Tryz.prog w = .ok (.tuple #[.nilIface, .bool false]) w :=
 run_typeAssert_lacksB Tryz.underlying190 (by kernel_rfl) (by kernel_rfl) v xT w
theorem Tryz.asUnE (v : Value) (xT : TypeId) (w : World) : (Instr.typeAssert (.iface 50 v) xT 193 true).run Tryz.prog w = .ok (.tuple #[.nilIface, .bool false]) w :=
 run_typeAssert_lacksB Tryz.underlying193 (by kernel_rfl) (by kernel_rfl) v xT w
theorem Tryz.asUmE (v : Value) (xT : TypeId) (w : World) : (Instr.typeAssert (.iface 50 v) xT 195 true).run Tryz.prog w = .ok (.tuple #[.nilIface, .bool false]) w :=
 run_typeAssert_lacksB Tryz.underlying195 (by kernel_rfl) (by kernel_rfl) v xT w
theorem Tryz.asUnF (v : Value) (xT : TypeId) (w : World) : (Instr.typeAssert (.iface 99 v) xT 193 true).run Tryz.prog w = .ok (.tuple #[.iface 99 v, .bool true]) w :=
 run_typeAssert_hasB Tryz.underlying193 (by kernel_rfl) v xT w
def Door (w : World) : Prop := w.cell? ⟨1, 0, none⟩ = some (.iface 186 (.agg #[.pointer (some ⟨2, 41, none⟩)]))
theorem Door.below {w w' : World} (h : Door w) {B : Nat} (hB : w.heap.size ≤ B) (hb : Below B w w') : Door w' := by
 unfold Door
 rw [hb.cell (p := ⟨1, 0, none⟩) (Nat.lt_of_lt_of_le (cell_lt h) hB)]
 exact h
theorem grownBy_set (w : World) (p : Addr) (v : Value) : w.grownBy (w.setCell p v) (some p.block) :=
 ⟨rfl, rfl, rfl, by simp [World.setCell], fun k _ hne => Below.heap_setCell _ _ _ _ (fun e => hne (by rw [e]))⟩
set_option maxHeartbeats 4000000 in
theorem as_EE (c : Int) (t A : Addr) (old : Value) (w : World) (hA : w.cell? A = some (.pointer (some t))) (ht : w.cell? t = some old) (hf : w.frozen? t = false) :
 Calls Tryz.prog 92 #[.iface 50 (.int .i64 c), .iface 97 (.pointer (some t)), .agg #[.pointer (some ⟨2, 97, none⟩), .pointer (some A), .int .u64 150], .iface 186 (.agg #[.pointer (some ⟨2, 50, none⟩)])] w
  fun e w' => e = .returned (.bool true) ∧ w.grownBy w' (some t.block) ∧ w'.cell? t = some (.int .i64 c) := by
 have hTO := @run_callFunc_extern Tryz.prog 133 _ ReflectliteType.typeOf Tryz.func133 (by kernel_rfl) (by kernel_rfl) (by kernel_rfl) (by kernel_rfl)
 have hAT := @run_callFunc_extern Tryz.prog 268 _ (ReflectliteType.relation "AssignableTo" ReflectliteType.assignableTo) Tryz.func268 (by kernel_rfl) (by kernel_rfl) (by kernel_rfl) (by kernel_rfl)
 have hEl := @run_callFunc_extern Tryz.prog 136 _ (ReflectliteValue.method (ReflectliteValue.valueError "reflectlite.Value.Elem" 0) ReflectliteValue.elem) Tryz.func136 (by kernel_rfl) (by kernel_rfl) (by kernel_rfl) (by kernel_rfl)
 have hVO := @run_callFunc_extern Tryz.prog 89 _ (fun args => ReflectliteValue.unpack (args.getD 0 (.tuple #[]))) Tryz.func89 (by kernel_rfl) (by kernel_rfl) (by kernel_rfl) (by kernel_rfl)
 have hSt := @run_callFunc_extern Tryz.prog 137 _ ReflectliteValue.set Tryz.func137 (by kernel_rfl) (by kernel_rfl) (by kernel_rfl) (by kernel_rfl)
 have tO := Tryz.typeOfE
 have mA := Tryz.methodAssignableTo
 have aEE := Tryz.assignableEE
 have vE := Tryz.valueOfE
 have hAl : A.block < w.heap.size := cell_lt hA
 have htl : t.block < w.heap.size := cell_lt ht
 have el := Tryz.elemVPE A t (w.alloc (.cells #[.pointer (some ⟨2, 97, none⟩), .pointer (some A), .int .u64 150] 136)) (by rw [World.cell?_alloc_lt _ _ A hAl]; exact hA)
 have st := Tryz.setE t ⟨w.heap.size + 1, 0, none⟩ c old ((w.alloc (.cells #[.pointer (some ⟨2, 97, none⟩), .pointer (some A), .int .u64 150] 136)).alloc (.cells #[.int .i64 c] 50))
  (by rw [World.cell?_alloc_at _ _ _ _ (by simp)]; rfl)
  (by rw [World.cell?_alloc_lt _ _ t (by simp; omega), World.cell?_alloc_lt _ _ t htl]; exact ht)
  (by rw [World.frozen?_alloc_old _ _ t (by simp; omega), World.frozen?_alloc_old _ _ t (Nat.ne_of_lt htl)]; exact hf)
 have hc2 : (((w.alloc (.cells #[.pointer (some ⟨2, 97, none⟩), .pointer (some A), .int .u64 150] 136)).alloc (.cells #[.int .i64 c] 50)).setCell t (.int .i64 c)).cell? t = some (.int .i64 c) :=
  World.cell?_setCell_same _ _ _ (by rw [World.cell?_alloc_lt _ _ t (by simp; omega), World.cell?_alloc_lt _ _ t htl]; exact ht)
 have Hc2 := Lib.hid hc2; clear hc2
 go_enter Tryz.func92, Tryz.ntmps92
 go_wp2
 refine wp_loop_rounds 1 ?_
 rw [rounds_succ]
 go_wp2
 go_ret
 exact ⟨rfl, grownBy_trans (grownBy_trans (World.grownBy_alloc _ _ _) (World.grownBy_alloc _ _ _)) (grownBy_set _ _ _), Hc2.out⟩
theorem unwrapF (c a : Int) (w : World) : Calls Tryz.prog 261 #[.agg #[.int .i64 c, .int .i64 a]] w fun e w' => e = .returned (.iface 50 (.int .i64 c)) ∧ w' = w.alloc (.cells #[.int .i64 c, .int .i64 a] 99) := by
 go_enter Tryz.func261, Tryz.ntmps261
 go_wp2
 go_ret
 exact ⟨rfl, rfl⟩
set_option maxHeartbeats 4000000 in
theorem as_EF (c a : Int) (t A : Addr) (old : Value) (w : World) (hA : w.cell? A = some (.pointer (some t))) (ht : w.cell? t = some old) (hf : w.frozen? t = false) :
 Calls Tryz.prog 92 #[.iface 99 (.agg #[.int .i64 c, .int .i64 a]), .iface 97 (.pointer (some t)), .agg #[.pointer (some ⟨2, 97, none⟩), .pointer (some A), .int .u64 150], .iface 186 (.agg #[.pointer (some ⟨2, 50, none⟩)])] w
  fun e w' => e = .returned (.bool true) ∧ w.grownBy w' (some t.block) ∧ w'.cell? t = some (.int .i64 c) := by
 have hTO := @run_callFunc_extern Tryz.prog 133 _ ReflectliteType.typeOf Tryz.func133 (by kernel_rfl) (by kernel_rfl) (by kernel_rfl) (by kernel_rfl)
 have hAT := @run_callFunc_extern Tryz.prog 268 _ (ReflectliteType.relation "AssignableTo" ReflectliteType.assignableTo) Tryz.func268 (by kernel_rfl) (by kernel_rfl) (by kernel_rfl) (by kernel_rfl)
 have hEl := @run_callFunc_extern Tryz.prog 136 _ (ReflectliteValue.method (ReflectliteValue.valueError "reflectlite.Value.Elem" 0) ReflectliteValue.elem) Tryz.func136 (by kernel_rfl) (by kernel_rfl) (by kernel_rfl) (by kernel_rfl)
 have hVO := @run_callFunc_extern Tryz.prog 89 _ (fun args => ReflectliteValue.unpack (args.getD 0 (.tuple #[]))) Tryz.func89 (by kernel_rfl) (by kernel_rfl) (by kernel_rfl) (by kernel_rfl)
 have hSt := @run_callFunc_extern Tryz.prog 137 _ ReflectliteValue.set Tryz.func137 (by kernel_rfl) (by kernel_rfl) (by kernel_rfl) (by kernel_rfl)
 have tO := Tryz.typeOfE
 have tO2 := Tryz.typeOfF
 have mA := Tryz.methodAssignableTo
 have aEE := Tryz.assignableEE
 have aFE := Tryz.assignableFE
 have s1 := Tryz.asAsF
 have s2 := Tryz.asUnF
 have mU := Tryz.methodUnF
 have vE := Tryz.valueOfE
 have hAl : A.block < w.heap.size := cell_lt hA
 have htl : t.block < w.heap.size := cell_lt ht
 have hA2 : ((w.alloc (.cells #[.pointer (some ⟨2, 97, none⟩), .pointer (some A), .int .u64 150] 136)).alloc (.cells #[.int .i64 c, .int .i64 a] 99)).cell? A = some (.pointer (some t)) := by
  rw [World.cell?_alloc_lt _ _ A (by simp; omega), World.cell?_alloc_lt _ _ A hAl]; exact hA
 have ht2 : ((w.alloc (.cells #[.pointer (some ⟨2, 97, none⟩), .pointer (some A), .int .u64 150] 136)).alloc (.cells #[.int .i64 c, .int .i64 a] 99)).cell? t = some old := by
  rw [World.cell?_alloc_lt _ _ t (by simp; omega), World.cell?_alloc_lt _ _ t htl]; exact ht
 have hf2 : ((w.alloc (.cells #[.pointer (some ⟨2, 97, none⟩), .pointer (some A), .int .u64 150] 136)).alloc (.cells #[.int .i64 c, .int .i64 a] 99)).frozen? t = false := by
  rw [World.frozen?_alloc_old _ _ t (by simp; omega), World.frozen?_alloc_old _ _ t (Nat.ne_of_lt htl)]; exact hf
 have el := Tryz.elemVPE A t ((w.alloc (.cells #[.pointer (some ⟨2, 97, none⟩), .pointer (some A), .int .u64 150] 136)).alloc (.cells #[.int .i64 c, .int .i64 a] 99)) hA2
 have st := Tryz.setE t ⟨w.heap.size + 1 + 1, 0, none⟩ c old (((w.alloc (.cells #[.pointer (some ⟨2, 97, none⟩), .pointer (some A), .int .u64 150] 136)).alloc (.cells #[.int .i64 c, .int .i64 a] 99)).alloc (.cells #[.int .i64 c] 50))
  (by rw [World.cell?_alloc_at _ _ _ _ (by simp)]; rfl)
  (by rw [World.cell?_alloc_lt _ _ t (by simp; omega)]; exact ht2)
  (by rw [World.frozen?_alloc_old _ _ t (by simp; omega)]; exact hf2)
 have hc2 : ((((w.alloc (.cells #[.pointer (some ⟨2, 97, none⟩), .pointer (some A), .int .u64 150] 136)).alloc (.cells #[.int .i64 c, .int .i64 a] 99)).alloc (.cells #[.int .i64 c] 50)).setCell t (.int .i64 c)).cell? t = some (.int .i64 c) :=
  World.cell?_setCell_same _ _ _ (by rw [World.cell?_alloc_lt _ _ t (by simp; omega)]; exact ht2)
 have Hc2 := Lib.hid hc2; clear hc2 hA2 ht2 hf2
 go_enter Tryz.func92, Tryz.ntmps92
 go_wp2
 refine wp_loop_rounds 2 ?_
 rw [rounds_succ]
 go_wp2_with fail
 refine (unwrapF c a _).mono ?_
 rintro e w' ⟨rfl, rfl⟩
 go_wp2_with fail
 rw [rounds_succ]
 go_wp2_with fail
 go_ret
 exact ⟨rfl, grownBy_trans (grownBy_trans (grownBy_trans (World.grownBy_alloc _ _ _) (World.grownBy_alloc _ _ _)) (World.grownBy_alloc _ _ _)) (grownBy_set _ _ _), Hc2.out⟩
end
end Go.Proofs.YtkkdlgcfcbaibaaGreatDoor
