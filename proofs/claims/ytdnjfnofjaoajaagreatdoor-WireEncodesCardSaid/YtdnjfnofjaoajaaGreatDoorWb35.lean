/- Walks and laws, joined: Wb35. -/
import Derived.Test.YtdnjfnofjaoajaaGreatDoorWb32
import Derived.Test.YtdnjfnofjaoajaaGreatDoorWb31
set_option linter.unusedVariables false
namespace Go.Proofs.YtdnjfnofjaoajaaGreatDoor
section
open Go.RowKit
theorem zi9 {k:Kno} (hall:∀f∈k,zq f.1∧LtV f.2) (hf:zcy k=true) (hck:ckF k=none):LtK k∧SmallK k∧yf k≤240∧KnoFits k∧(qd (k.map (·.1))).length≤2000∧EncK (zh k):=by
 obtain⟨hs,h12,h240⟩:=zo5 hf;have hk:=zli hall hck;exact⟨hk,hs,h240,zlh hk hs,Nat.le_trans (zon _) (by omega),zly hk hs h240⟩
end
end Go.Proofs.YtdnjfnofjaoajaaGreatDoor
