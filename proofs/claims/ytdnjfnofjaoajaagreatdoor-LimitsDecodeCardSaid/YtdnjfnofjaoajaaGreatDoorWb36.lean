/- Walks and laws, joined: Wb36. -/
import Derived.Test.YtdnjfnofjaoajaaGreatDoorWb32
set_option linter.unusedVariables false
namespace Go.Proofs.YtdnjfnofjaoajaaGreatDoor
open Lib (hid)
section
open Go.RowKit
theorem zl3 (a:Option Addr) (n cap:Nat) (k:Kno) (w:World) (hE:Frags w a n cap k):
 Calls Tryz.prog 34 #[.slice a n cap] w fun x w'=>x=.returned (.bool (decide (ckF k=none)))∧Below w.heap.size w w':=by
 have hC:=hid (zo4 a n cap k w hE);clear hE
 cases h:ckF k with
 | none=>
  rw[h] at hC;simp only[yj,qo,js] at hC;clear h;go_enter Tryz.func34,Tryz.ntmps34;go_wp2_with fail;refine hC.out.mono ?_;rintro e w1 ⟨rfl,hb1⟩;have Hb1:=hid hb1;clear hb1;go_wp2;go_ret
  exact⟨by simp,Hb1.out⟩
 | some x=>
  have hc0:=zlz h;obtain⟨cd,i⟩:=x;rw[h] at hC;simp only[yj,qo,js] at hC;have hne:((cd:Int) == 0)=false:=by rw[beq_eq_false_iff_ne];simp at hc0;omega
  clear h hc0;go_enter Tryz.func34,Tryz.ntmps34;go_wp2_with fail;refine hC.out.mono ?_;rintro e w1 ⟨rfl,hb1⟩;have Hb1:=hid hb1;clear hb1;go_wp2;go_ret;exact⟨by simp,Hb1.out⟩
end
end Go.Proofs.YtdnjfnofjaoajaaGreatDoor
