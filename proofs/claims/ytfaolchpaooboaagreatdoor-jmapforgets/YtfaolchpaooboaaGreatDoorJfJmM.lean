/- Part of the value machine, or of a walk by it: lemmas that the claim's last text uses. No conditions. -/
import Derived.Test.YtfaolchpaooboaaGreatDoorJfJFe0
import Derived.Test.YtfaolchpaooboaaGreatDoorJfJFe1
import Derived.Test.YtfaolchpaooboaaGreatDoorJfJFe2
import Derived.Test.YtfaolchpaooboaaGreatDoorJfJFe3
import Derived.Test.YtfaolchpaooboaaGreatDoorJfJFe4
import Derived.Test.YtfaolchpaooboaaGreatDoorJfJFe5
import Derived.KernelRfl
set_option linter.unusedVariables false
set_option linter.unusedSimpArgs false
set_option linter.unnecessarySimpa false
noncomputable section
namespace Go.Proofs.Jm
open Go Go.Proofs Go.Vm
set_option linter.unusedVariables false
set_option linter.unusedSimpArgs false
set_option maxRecDepth 100000
set_option maxHeartbeats 4000000
theorem awake_run : isT (TryF12 [] (h0 TryG)) = true := by kernel_rfl
def TryF12c : Fun := constB true
theorem Tryc12c : CallOk Tryz.prog TryG 12 TryF12c := (isT_ok awake_run).elim fun h e => constB_ok Tryc12 e
def memo0 : Fun := TryF7
theorem memo0_ok : CallOk Tryz.prog TryG 7 memo0 := Tryc7
def memo1 : Fun := tidyF memo0 zs_q0 g_q0 r_q0 31 l_q0
theorem memo1_ok : CallOk Tryz.prog TryG 7 memo1 := tidyF_ok memo0_ok Tryc7 ent_q0
def memo2 : Fun := tidyF memo1 zs_q1 g_q1 r_q1 48 l_q1
theorem memo2_ok : CallOk Tryz.prog TryG 7 memo2 := tidyF_ok memo1_ok Tryc7 ent_q1
def memo3 : Fun := tidyF memo2 zs_q2 g_q2 r_q2 60 l_q2
theorem memo3_ok : CallOk Tryz.prog TryG 7 memo3 := tidyF_ok memo2_ok Tryc7 ent_q2
def memo4 : Fun := tidyF memo3 zs_q3 g_q3 r_q3 72 l_q3
theorem memo4_ok : CallOk Tryz.prog TryG 7 memo4 := tidyF_ok memo3_ok Tryc7 ent_q3
def memo5 : Fun := tidyF memo4 zs_q4 g_q4 r_q4 84 l_q4
theorem memo5_ok : CallOk Tryz.prog TryG 7 memo5 := tidyF_ok memo4_ok Tryc7 ent_q4
def memo6 : Fun := tidyF memo5 zs_q5 g_q5 r_q5 96 l_q5
theorem memo6_ok : CallOk Tryz.prog TryG 7 memo6 := tidyF_ok memo5_ok Tryc7 ent_q5
def memo7 : Fun := tidyF memo6 zs_q6 g_q6 r_q6 108 l_q6
theorem memo7_ok : CallOk Tryz.prog TryG 7 memo7 := tidyF_ok memo6_ok Tryc7 ent_q6
def memo8 : Fun := tidyF memo7 zs_q7 g_q7 r_q7 120 l_q7
theorem memo8_ok : CallOk Tryz.prog TryG 7 memo8 := tidyF_ok memo7_ok Tryc7 ent_q7
def memo9 : Fun := tidyF memo8 zs_q8 g_q8 r_q8 132 l_q8
theorem memo9_ok : CallOk Tryz.prog TryG 7 memo9 := tidyF_ok memo8_ok Tryc7 ent_q8
def memo10 : Fun := tidyF memo9 zs_q9 g_q9 r_q9 144 l_q9
theorem memo10_ok : CallOk Tryz.prog TryG 7 memo10 := tidyF_ok memo9_ok Tryc7 ent_q9
def memo11 : Fun := tidyF memo10 zs_q10 g_q10 r_q10 156 l_q10
theorem memo11_ok : CallOk Tryz.prog TryG 7 memo11 := tidyF_ok memo10_ok Tryc7 ent_q10
def memo12 : Fun := tidyF memo11 zs_q11 g_q11 r_q11 168 l_q11
theorem memo12_ok : CallOk Tryz.prog TryG 7 memo12 := tidyF_ok memo11_ok Tryc7 ent_q11
def memo13 : Fun := tidyF memo12 zs_f0t g_f0t r_f0t 64 l_f0t
theorem memo13_ok : CallOk Tryz.prog TryG 7 memo13 := tidyF_ok memo12_ok Tryc7 ent_f0t
def memo14 : Fun := tidyF memo13 zs_f0f g_f0f r_f0f 49 l_f0f
theorem memo14_ok : CallOk Tryz.prog TryG 7 memo14 := tidyF_ok memo13_ok Tryc7 ent_f0f
def memo15 : Fun := tidyF memo14 zs_f1t g_f1t r_f1t 76 l_f1t
theorem memo15_ok : CallOk Tryz.prog TryG 7 memo15 := tidyF_ok memo14_ok Tryc7 ent_f1t
def memo16 : Fun := tidyF memo15 zs_f1f g_f1f r_f1f 61 l_f1f
theorem memo16_ok : CallOk Tryz.prog TryG 7 memo16 := tidyF_ok memo15_ok Tryc7 ent_f1f
def memo17 : Fun := tidyF memo16 zs_f2t g_f2t r_f2t 88 l_f2t
theorem memo17_ok : CallOk Tryz.prog TryG 7 memo17 := tidyF_ok memo16_ok Tryc7 ent_f2t
def memo18 : Fun := tidyF memo17 zs_f2f g_f2f r_f2f 73 l_f2f
theorem memo18_ok : CallOk Tryz.prog TryG 7 memo18 := tidyF_ok memo17_ok Tryc7 ent_f2f
def memo19 : Fun := tidyF memo18 zs_f3t g_f3t r_f3t 100 l_f3t
theorem memo19_ok : CallOk Tryz.prog TryG 7 memo19 := tidyF_ok memo18_ok Tryc7 ent_f3t
def memo20 : Fun := tidyF memo19 zs_f3f g_f3f r_f3f 85 l_f3f
theorem memo20_ok : CallOk Tryz.prog TryG 7 memo20 := tidyF_ok memo19_ok Tryc7 ent_f3f
def memo21 : Fun := tidyF memo20 zs_f4t g_f4t r_f4t 112 l_f4t
theorem memo21_ok : CallOk Tryz.prog TryG 7 memo21 := tidyF_ok memo20_ok Tryc7 ent_f4t
def memo22 : Fun := tidyF memo21 zs_f4f g_f4f r_f4f 97 l_f4f
theorem memo22_ok : CallOk Tryz.prog TryG 7 memo22 := tidyF_ok memo21_ok Tryc7 ent_f4f
def memo23 : Fun := tidyF memo22 zs_f5t g_f5t r_f5t 124 l_f5t
theorem memo23_ok : CallOk Tryz.prog TryG 7 memo23 := tidyF_ok memo22_ok Tryc7 ent_f5t
def memo24 : Fun := tidyF memo23 zs_f5f g_f5f r_f5f 109 l_f5f
theorem memo24_ok : CallOk Tryz.prog TryG 7 memo24 := tidyF_ok memo23_ok Tryc7 ent_f5f
def memo25 : Fun := tidyF memo24 zs_f6t g_f6t r_f6t 136 l_f6t
theorem memo25_ok : CallOk Tryz.prog TryG 7 memo25 := tidyF_ok memo24_ok Tryc7 ent_f6t
def memo26 : Fun := tidyF memo25 zs_f6f g_f6f r_f6f 121 l_f6f
theorem memo26_ok : CallOk Tryz.prog TryG 7 memo26 := tidyF_ok memo25_ok Tryc7 ent_f6f
def memo27 : Fun := tidyF memo26 zs_f7t g_f7t r_f7t 148 l_f7t
theorem memo27_ok : CallOk Tryz.prog TryG 7 memo27 := tidyF_ok memo26_ok Tryc7 ent_f7t
def memo28 : Fun := tidyF memo27 zs_f7f g_f7f r_f7f 133 l_f7f
theorem memo28_ok : CallOk Tryz.prog TryG 7 memo28 := tidyF_ok memo27_ok Tryc7 ent_f7f
def memo29 : Fun := tidyF memo28 zs_f8t g_f8t r_f8t 160 l_f8t
theorem memo29_ok : CallOk Tryz.prog TryG 7 memo29 := tidyF_ok memo28_ok Tryc7 ent_f8t
def memo30 : Fun := tidyF memo29 zs_f8f g_f8f r_f8f 144 l_f8f
theorem memo30_ok : CallOk Tryz.prog TryG 7 memo30 := tidyF_ok memo29_ok Tryc7 ent_f8f
def memo31 : Fun := tidyF memo30 zs_f9t g_f9t r_f9t 172 l_f9t
theorem memo31_ok : CallOk Tryz.prog TryG 7 memo31 := tidyF_ok memo30_ok Tryc7 ent_f9t
def memo32 : Fun := tidyF memo31 zs_f9f g_f9f r_f9f 156 l_f9f
theorem memo32_ok : CallOk Tryz.prog TryG 7 memo32 := tidyF_ok memo31_ok Tryc7 ent_f9f
def memo33 : Fun := tidyF memo32 zs_f10t g_f10t r_f10t 184 l_f10t
theorem memo33_ok : CallOk Tryz.prog TryG 7 memo33 := tidyF_ok memo32_ok Tryc7 ent_f10t
def memo34 : Fun := tidyF memo33 zs_f10f g_f10f r_f10f 168 l_f10f
theorem memo34_ok : CallOk Tryz.prog TryG 7 memo34 := tidyF_ok memo33_ok Tryc7 ent_f10f
def memo35 : Fun := tidyF memo34 zs_f11t g_f11t r_f11t 196 l_f11t
theorem memo35_ok : CallOk Tryz.prog TryG 7 memo35 := tidyF_ok memo34_ok Tryc7 ent_f11t
def memo36 : Fun := tidyF memo35 zs_f11f g_f11f r_f11f 180 l_f11f
theorem memo36_ok : CallOk Tryz.prog TryG 7 memo36 := tidyF_ok memo35_ok Tryc7 ent_f11f
def TryF7m : Fun := memo36
theorem Tryc7m : CallOk Tryz.prog TryG 7 TryF7m := memo36_ok
end Go.Proofs.Jm
