/- Part 22. -/
import Derived.Test.YtmfhggnlainmiaaGreatDoorPk06
set_option linter.unusedVariables false
namespace Go.Proofs.YtmfhggnlainmiaaGreatDoor
section
open Go.ChangeShapes Go.WideShapes Go.RowKit Go.ChangeAt
abbrev LD:List (String×DataW Unit):=Rows.topAgreesRow.laid
theorem ycw {W:World} (h:laidMetH Tryz.prog LD W):laidMet Tryz.prog (LD.filter fun x=>x.2.handleName?.isNone) W∧handlesMet Tryz.prog [("errors.errorType",Rows.laid_errors_errorType)] W:=h
theorem zhx {W:World} (h:laidMetH Tryz.prog LD W):Door W:=zxd (ycw h).2
theorem zhy (os:Os) (args:Array Value):laidMetH Tryz.prog LD ((zd9 os).forCall (fun _ _=>0) ⟨#[],args,[]⟩).memory:=
 laidMetH_of_parts (laidMet_of_run3 8 (by kernel_rfl) (by kernel_rfl) (by kernel_rfl)) (by kernel_rfl)
