/- DiskOwn: no condition. -/
import Derived.Test.YtphgoiepoojikaaPMx1
namespace Go.Proofs.Ytphgoiepoojikaa.Pure
open Go.RowKit Go.Proofs.YtphgoiepoojikaaW.PrintWords Go.Proofs.YtphgoiepoojikaaW.PrintLast Go.Proofs.YtphgoiepoojikaaW.PrintMore Go.Proofs.Ytphgoiepoojikaa Disk PK PM
set_option linter.unusedVariables false
theorem DiskOwn : redresslaw17_DiskOwn.Pure := by
  intro l0 a1 _ _ _ _
  rfl
end Go.Proofs.Ytphgoiepoojikaa.Pure
