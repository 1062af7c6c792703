/-
  A law for a walk: two arrays of four bytes are compared.
-/
import Derived.Test.YtejcakbkldecmaaDoorKRows
namespace Go.Proofs.YtejcakbkldecmaaDoor
open Go.RowKit
theorem Tryd.arr4 : Tryd.prog.underlying 45 = some (.array 4 5) := Tryd.underlying45
theorem Tryd.sz8 : (Tryd.prog.info? 5).map (·.size) = some 1 := by kernel_rfl
theorem eq_u8 (d : Nat) (a b : Int) (w : World) : (Op.equalIn (d + 1) 5 (.int .u8 a) (.int .u8 b)).run Tryd.prog w = .ok (a == b) w := by
  simp [Op.equalIn, run_underlying Tryd.underlying5]
theorem part8 (cs : Array Value) (i : Nat) (v : Value) (h : cs[i]? = some v) (w : World) : (part 5 cs i).run Tryd.prog w = .ok v w := by
  simp [part, isAgg, run_underlying Tryd.underlying5, h]
theorem eq_arr4d (d : Nat) (x0 x1 x2 x3 y0 y1 y2 y3 : Int) (w : World) : (Op.equalIn (d + 1 + 1) 45 (.agg #[.int .u8 x0, .int .u8 x1, .int .u8 x2, .int .u8 x3]) (.agg #[.int .u8 y0, .int .u8 y1, .int .u8 y2, .int .u8 y3])).run Tryd.prog w = .ok (x0 == y0 && (x1 == y1 && (x2 == y2 && x3 == y3))) w := by
  cases hq : Tryd.prog.info? 5 with
  | none => have := Tryd.sz8; simp [hq] at this
  | some i =>
    have hsz : i.size = 1 := by have := Tryd.sz8; simpa [hq] using this
    have e := fun (a b : Int) => eq_u8 d a b w
    rw [Op.equalIn]
    generalize Op.equalIn (d + 1) = F at *
    simp only [Sem.run_bind, run_underlying Tryd.arr4, Result.andThen, sizeOf, typeInfo]
    simp [hq, hsz, Std.Legacy.Range.forIn_eq_forIn_range', List.range', part8, e]
    by_cases h0 : x0 = y0 <;> by_cases h1 : x1 = y1 <;> by_cases h2 : x2 = y2 <;> by_cases h3 : x3 = y3 <;> simp [h0, h1, h2, h3]
theorem eq_arr4 (x0 x1 x2 x3 y0 y1 y2 y3 : Int) (w : World) : (Op.equalIn 10000 45 (.agg #[.int .u8 x0, .int .u8 x1, .int .u8 x2, .int .u8 x3]) (.agg #[.int .u8 y0, .int .u8 y1, .int .u8 y2, .int .u8 y3])).run Tryd.prog w = .ok (x0 == y0 && (x1 == y1 && (x2 == y2 && x3 == y3))) w :=
  eq_arr4d 9998 x0 x1 x2 x3 y0 y1 y2 y3 w

end Go.Proofs.YtejcakbkldecmaaDoor
