/- Part of the claim: facts that its last text uses. No conditions. -/
import Derived.Test.YtfaolchpaooboaaGreatDoorJbABO
import Derived.KernelRfl
set_option linter.all false
noncomputable section
namespace Go.Proofs.Jm
open Go Go.Proofs Go.Vm
set_option maxRecDepth 100000
set_option maxHeartbeats 4000000
theorem aH5(x:V):isT (bD Tryz.prog [.tmp 4] (BT 8 true x))=true:=by kernel_rfl
theorem aH6(x:V):isT (bD Tryz.prog [.tmp 4] (BT 8 false x))=true:=by kernel_rfl
theorem aH3(x:V):isT (bD Tryz.prog [.tmp 4] (BT 9 true x))=true:=by kernel_rfl
theorem aH4(x:V):isT (bD Tryz.prog [.tmp 4] (BT 9 false x))=true:=by kernel_rfl
theorem aDQ(x:V):isT (bD Tryz.prog [.tmp 4] (BT 10 true x))=true:=by kernel_rfl
theorem aDR(x:V):isT (bD Tryz.prog [.tmp 4] (BT 10 false x))=true:=by kernel_rfl
theorem aDO(x:V):isT (bD Tryz.prog [.tmp 4] (BT 11 true x))=true:=by kernel_rfl
theorem aDP(x:V):isT (bD Tryz.prog [.tmp 4] (BT 11 false x))=true:=by kernel_rfl
end Go.Proofs.Jm
noncomputable section
namespace Go.Proofs.Jm
open Go Go.Proofs Go.Vm
set_option maxRecDepth 100000
set_option maxHeartbeats 4000000
theorem aDM(x:V):isT (bD Tryz.prog [.tmp 4] (BT 12 true x))=true:=by kernel_rfl
theorem aDN(x:V):isT (bD Tryz.prog [.tmp 4] (BT 12 false x))=true:=by kernel_rfl
theorem aDK(x:V):isT (bD Tryz.prog [.tmp 4] (BT 13 true x))=true:=by kernel_rfl
theorem aDL(x:V):isT (bD Tryz.prog [.tmp 4] (BT 13 false x))=true:=by kernel_rfl
theorem aDI(x:V):isT (bD Tryz.prog [.tmp 4] (BT 14 true x))=true:=by kernel_rfl
theorem aDJ(x:V):isT (bD Tryz.prog [.tmp 4] (BT 14 false x))=true:=by kernel_rfl
end Go.Proofs.Jm
