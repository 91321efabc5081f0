/- Part of the claim: facts that its last text uses. No conditions. -/
import Derived.Test.YtpgppmioigacoaaGreatDoorChecked
import Derived.KernelRfl
import Derived.Test.YtpgppmioigacoaaGreatDoorSR
set_option linter.all false
namespace Go.Proofs.YtpgppmioigacoaaGreatDoor.ImapSearchesZ
open Go Go.Proofs Go.Vm
set_option maxRecDepth 100000
abbrev t0 : List Nat := [6]
abbrev s0 : List Nat := []
abbrev t1 : List Nat := [126,98,126,98,19,126,98,62,63,64,65,66,67,68,58,69,70,71,72,73,74,75,13,30,10,20,14,20,14,14,14,21,12,14,13,14,9]
abbrev s1 : List Nat := [139,208,125,181,364,285,284,434,433,432,431,527,491,490,430,357,356,429,489,428,427,368,268,165,283,100,81,43,15,175,190,290,185,530,529,498,497,450,449,496,495,269,448,447,388,309,209,126,118,202,168,301,201,122,95,187,53,24,205,383,300,528,492,436,493,437,375,435,373,371,370,380,443,381,298,297,382,299,292,200,377,295,197,198,385,304,379,442,441,378,296,199,494,440,439,438,376,294,196,120,116,112,61,111,110,60,59,58,99,96,384,303,282,173,204,128,98,109,57,29,28,108,56,55,289,184,107,54,26,27,9,6]++s0
theorem clo0 : cloSteps Tryz.prog 200 t0 s0 = (t1, s1) := by kernel_rfl
abbrev t2 : List Nat := [314,314,314,215,216,118,125,20,118,126,126,58,69,70,71,72,73,74,75,13,30,10,20,14,20,14,14,14,21,12,14,13,14,9]
abbrev s2 : List Nat := [313,312,311,214,132,131,213,130,80,212,129,68,211,127,85,36,446,445,387,308,207,307,444,386,306,305,206,124,67,302,203,123,121,66,88,278,277,275,274,424,363,362,273,272,361,271,276,270,167,87,86,39,195,119,65,194,76,51,310,210,293,193,192,191,117,64,115,38,166,84,35,34,169,89,189,188,114,291,186,113,63,62,101,44,19]++s1
theorem clo1 : cloSteps Tryz.prog 200 t1 s1 = (t2, s2) := by kernel_rfl
abbrev t3 : List Nat := [56,253,118,70,71,72,73,74,75,13,30,10,20,14,20,14,14,14,21,12,14,13,14,9]
abbrev s3 : List Nat := [422,353,252,157,52,50,21,391,323,322,458,457,456,455,531,501,500,454,453,499,452,451,390,321,319,320,318,315,389,317,316,37,77,31,220,219,218,217,234,144,133,324,223,138,222,221,134,69,49,106,374,372,369,288,183,365,279,170,287,182,105,104,48,47,103,46,102,45,83,267,266,264,263,423,359,358,262,261,355,260,360,265,259,164,82,79,163,78,32,20,216,215,314]++s2
theorem clo2 : cloSteps Tryz.prog 200 t2 s2 = (t3, s3) := by kernel_rfl
abbrev t4 : List Nat := [286,128,237,238,240,241,243,245,246,246,246,232,109,143,109,145,144,146,147,146,147,148,149,150,81,11,151,152,98,146,153,73,74,75,13,30,10,20,14,20,14,14,14,21,12,14,13,14,9]
abbrev s4 : List Nat := [180,236,147,231,142,72,407,406,339,338,405,336,337,404,335,403,334,333,332,230,229,228,140,518,474,517,473,516,472,515,471,514,470,469,468,513,467,466,465,535,512,464,511,463,510,462,331,461,401,402,400,399,330,227,137,71,136,398,328,329,226,141,225,397,396,509,508,507,506,544,534,533,505,504,532,503,502,460,395,394,327,233,393,326,459,392,325,224,135,70,253]++s3
theorem clo3 : cloSteps Tryz.prog 200 t3 s3 = (t4, s4) := by kernel_rfl
abbrev t5 : List Nat := [347,203,203,203,128,203,203,203,126,378,126,128,245,246,246,246,232,109,143,109,145,144,146,147,146,147,148,149,150,81,11,151,152,98,146,153,73,74,75,13,30,10,20,14,20,14,14,14,21,12,14,13,14,9]
abbrev s5 : List Nat := [347,488,419,418,486,543,487,554,542,541,526,485,417,416,415,348,244,243,346,345,525,540,553,561,552,551,539,524,484,483,557,558,548,577,576,569,567,556,547,568,575,574,573,572,571,566,565,564,563,562,555,546,537,545,536,522,560,550,570,559,549,538,523,482,481,480,479,414,413,344,343,242,241,240,478,519,477,521,520,476,412,342,411,410,341,239,238,237,286]++s4
theorem clo4 : cloSteps Tryz.prog 200 t4 s4 = (t5, s5) := by kernel_rfl
abbrev t6 : List Nat := [97,96,98,98,99,30,10,20,14,20,14,14,14,21,12,14,13,14,9]
abbrev s6 : List Nat := [94,93,42,92,426,367,281,425,366,280,172,171,91,90,41,40,13,75,258,257,162,74,161,160,255,256,354,254,159,158,156,155,154,73,153,152,250,151,33,11,150,421,351,248,247,148,249,149,235,146,145,143,409,475,408,340,232,420,352,251,350,349,246,245]++s5
theorem clo5 : cloSteps Tryz.prog 200 t5 s5 = (t6, s6) := by kernel_rfl
abbrev t7 : List Nat := []
abbrev s7 : List Nat := [12,14,10,30,179,177,178,176,174,97]++s6
theorem clo6 : cloSteps Tryz.prog 200 t6 s6 = (t7, s7) := by kernel_rfl
theorem cloAll : cloSteps Tryz.prog (200 + 200 + 200 + 200 + 200 + 200 + 200) [6] [] = ([], s7) := cloSteps_then (cloSteps_then (cloSteps_then (cloSteps_then (cloSteps_then (cloSteps_then clo0 clo1) clo2) clo3) clo4) clo5) clo6
theorem lead0 : leadN Tryz.prog ((Tryz.prog.funcs.toList.drop 0).take 100) = 469 := by kernel_rfl
theorem lead100 : leadN Tryz.prog ((Tryz.prog.funcs.toList.drop 100).take 100) = 349 := by kernel_rfl
theorem lead200 : leadN Tryz.prog ((Tryz.prog.funcs.toList.drop 200).take 100) = 320 := by kernel_rfl
theorem lead300 : leadN Tryz.prog ((Tryz.prog.funcs.toList.drop 300).take 100) = 279 := by kernel_rfl
theorem lead400 : leadN Tryz.prog ((Tryz.prog.funcs.toList.drop 400).take 100) = 276 := by kernel_rfl
theorem lead500 : leadN Tryz.prog ((Tryz.prog.funcs.toList.drop 500).take 100) = 233 := by kernel_rfl
theorem lead600 : leadN Tryz.prog ((Tryz.prog.funcs.toList.drop 600).take 100) = 31 := by kernel_rfl
theorem leadAll : (469 + (349 + (320 + (279 + (276 + (233 + (31 + 0))))))) ≤ leadN Tryz.prog (Tryz.prog.funcs.toList.drop 0) := (leadN_more (i := 0) (c := 100) lead0 (leadN_more (i := 100) (c := 100) lead100 (leadN_more (i := 200) (c := 100) lead200 (leadN_more (i := 300) (c := 100) lead300 (leadN_more (i := 400) (c := 100) lead400 (leadN_more (i := 500) (c := 100) lead500 (leadN_more (i := 600) (c := 100) lead600 (Nat.zero_le _))))))))
theorem cloEq : Tryz.prog.closure 6 = s7.reverse := closure_of_steps cloAll leadAll (by decide)
end Go.Proofs.YtpgppmioigacoaaGreatDoor.ImapSearchesZ
