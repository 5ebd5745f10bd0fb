/- DiskNew: no condition. -/
import Derived.Test.YtphgoiepoojikaaPLx1
namespace Go.Proofs.Ytphgoiepoojikaa.Pure
open Go.RowKit Go.Proofs.YtphgoiepoojikaaW.PrintWords Go.Proofs.YtphgoiepoojikaaW.PrintLast Go.Proofs.YtphgoiepoojikaaW.PrintMore Go.Proofs.Ytphgoiepoojikaa Disk PK PL
set_option linter.unusedVariables false
theorem DiskNew : redresslaw17_DiskNew.Pure := by
  intro a0 l1 _ _ _ _
  rfl
end Go.Proofs.Ytphgoiepoojikaa.Pure
