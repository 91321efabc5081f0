/- Part of the claim: facts that its last text uses. No conditions. -/
import Derived.Test.YtfaolchpaooboaaGreatDoorJbABO
import Derived.KernelRfl
set_option linter.all false
noncomputable section
namespace Go.Proofs.Jm
open Go Go.Proofs Go.Vm
set_option maxRecDepth 100000
set_option maxHeartbeats 4000000
theorem aIl(x:V):isT (bD Tryz.prog [.tmp 4] (BT 0 true x))=true:=by kernel_rfl
theorem aIm(x:V):isT (bD Tryz.prog [.tmp 4] (BT 0 false x))=true:=by kernel_rfl
theorem aIj(x:V):isT (bD Tryz.prog [.tmp 4] (BT 1 true x))=true:=by kernel_rfl
theorem aIk(x:V):isT (bD Tryz.prog [.tmp 4] (BT 1 false x))=true:=by kernel_rfl
theorem aIh(x:V):isT (bD Tryz.prog [.tmp 4] (BT 2 true x))=true:=by kernel_rfl
theorem aIi(x:V):isT (bD Tryz.prog [.tmp 4] (BT 2 false x))=true:=by kernel_rfl
theorem aIf(x:V):isT (bD Tryz.prog [.tmp 4] (BT 3 true x))=true:=by kernel_rfl
theorem aIg(x:V):isT (bD Tryz.prog [.tmp 4] (BT 3 false x))=true:=by kernel_rfl
end Go.Proofs.Jm
noncomputable section
namespace Go.Proofs.Jm
open Go Go.Proofs Go.Vm
set_option maxRecDepth 100000
set_option maxHeartbeats 4000000
theorem aId(x:V):isT (bD Tryz.prog [.tmp 4] (BT 4 true x))=true:=by kernel_rfl
theorem aIe(x:V):isT (bD Tryz.prog [.tmp 4] (BT 4 false x))=true:=by kernel_rfl
theorem aIb(x:V):isT (bD Tryz.prog [.tmp 4] (BT 5 true x))=true:=by kernel_rfl
theorem aIc(x:V):isT (bD Tryz.prog [.tmp 4] (BT 5 false x))=true:=by kernel_rfl
theorem aH9(x:V):isT (bD Tryz.prog [.tmp 4] (BT 6 true x))=true:=by kernel_rfl
theorem aIa(x:V):isT (bD Tryz.prog [.tmp 4] (BT 6 false x))=true:=by kernel_rfl
theorem aH7(x:V):isT (bD Tryz.prog [.tmp 4] (BT 7 true x))=true:=by kernel_rfl
theorem aH8(x:V):isT (bD Tryz.prog [.tmp 4] (BT 7 false x))=true:=by kernel_rfl
end Go.Proofs.Jm
