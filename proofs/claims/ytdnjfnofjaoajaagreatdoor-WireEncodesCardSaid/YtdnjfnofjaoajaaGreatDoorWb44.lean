/- Walks and laws, joined: Wb44. -/
import Derived.Test.YtdnjfnofjaoajaaGreatDoorWb27
set_option linter.unusedVariables false
namespace Go.Proofs.YtdnjfnofjaoajaaGreatDoor
section
open Go.RowKit
theorem zpj {c:Kno} (hK:EncK c):(zk c).length≤900000000:=by
 have h1:=zlq hK c.length (Nat.le_refl _);have h2:=ze0 c c.length (Nat.le_refl _);rw[List.take_length] at h2;have:=hK.sum;have:=hK.len;unfold zk;rw[List.length_append,zeb];unfold zj;omega
theorem zjb {c:Kno} (hK:EncK c):(zo (zk c)).length<900000000000:=by
 have h1:=zih (zk c);have h2:=zpj hK;omega
end
end Go.Proofs.YtdnjfnofjaoajaaGreatDoor
