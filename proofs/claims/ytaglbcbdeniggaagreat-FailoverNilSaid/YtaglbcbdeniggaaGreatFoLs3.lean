/- The calls of level 3. -/
import Derived.Test.YtaglbcbdeniggaaGreatFoEn2x1
import Derived.Test.YtaglbcbdeniggaaGreatFoEn2x2
import Derived.Test.YtaglbcbdeniggaaGreatFoEn2x3
import Derived.Test.YtaglbcbdeniggaaGreatFoEn2x4
import Derived.Test.YtaglbcbdeniggaaGreatFoEn2x5
import Derived.Test.YtaglbcbdeniggaaGreatFoEn2x6
namespace Go.Proofs.YtaglbcbdeniggaaGreat
open Go Go.Eng

def ents3 : Tr (List Known) :=
  (.nd (.nd (.nd (.nd .lf none (.nd .lf none (.nd (.nd .lf none (.nd .lf (some [E37]) .lf)) none .lf))) none .lf) none (.nd (.nd (.nd (.nd (.nd .lf none (.nd (.nd .lf (some [E48, E47, E34, E33, E27, E26, E25, E24, E23, E22, E21, E20, E19, E18, E17, E16, E15, E14, E13, E12, E11, E10, E9, E8, E4, E3, E2, E1, E0]) .lf) none .lf)) none .lf) none .lf) none .lf) none .lf)) none (.nd (.nd (.nd (.nd (.nd .lf none (.nd .lf none (.nd .lf (some [E46]) .lf))) none (.nd .lf (some [E49, E35]) (.nd .lf none (.nd .lf (some [E5]) .lf)))) none (.nd (.nd (.nd (.nd .lf (some [E39, E7]) .lf) none .lf) none .lf) none .lf)) none (.nd (.nd .lf none (.nd .lf none (.nd .lf none (.nd .lf (some [E38, E6]) .lf)))) none (.nd .lf none (.nd (.nd .lf none (.nd .lf (some [E45]) .lf)) none .lf)))) none (.nd (.nd .lf none (.nd .lf none (.nd (.nd .lf none (.nd .lf (some [E44, E43, E42, E41, E40]) .lf)) none .lf))) none (.nd .lf none (.nd .lf none (.nd .lf (some [E32, E31, E30, E29, E28]) .lf))))))
theorem ents3_ok : EntsOK Tryz.prog ents3 := ents_ok (
  (.no (.no (.no (.no .lf (.no .lf (.no (.no .lf (.so (all1 E37_ok all0) .lf .lf)) .lf))) .lf) (.no (.no (.no (.no (.no .lf (.no (.so (all1 E48_ok (all1 E47_ok (all1 E34_ok (all1 E33_ok (all1 E27_ok (all1 E26_ok (all1 E25_ok (all1 E24_ok (all1 E23_ok (all1 E22_ok (all1 E21_ok (all1 E20_ok (all1 E19_ok (all1 E18_ok (all1 E17_ok (all1 E16_ok (all1 E15_ok (all1 E14_ok (all1 E13_ok (all1 E12_ok (all1 E11_ok (all1 E10_ok (all1 E9_ok (all1 E8_ok (all1 E4_ok (all1 E3_ok (all1 E2_ok (all1 E1_ok (all1 E0_ok all0))))))))))))))))))))))))))))) .lf .lf) .lf)) .lf) .lf) .lf) .lf)) (.no (.no (.no (.no (.no .lf (.no .lf (.so (all1 E46_ok all0) .lf .lf))) (.so (all1 E49_ok (all1 E35_ok all0)) .lf (.no .lf (.so (all1 E5_ok all0) .lf .lf)))) (.no (.no (.no (.so (all1 E39_ok (all1 E7_ok all0)) .lf .lf) .lf) .lf) .lf)) (.no (.no .lf (.no .lf (.no .lf (.so (all1 E38_ok (all1 E6_ok all0)) .lf .lf)))) (.no .lf (.no (.no .lf (.so (all1 E45_ok all0) .lf .lf)) .lf)))) (.no (.no .lf (.no .lf (.no (.no .lf (.so (all1 E44_ok (all1 E43_ok (all1 E42_ok (all1 E41_ok (all1 E40_ok all0))))) .lf .lf)) .lf))) (.no .lf (.no .lf (.so (all1 E32_ok (all1 E31_ok (all1 E30_ok (all1 E29_ok (all1 E28_ok all0))))) .lf .lf)))))))
noncomputable def call3 : CallK := callK tbl ents3 rules 100000 80
theorem call3_ok : CallOK Tryz.prog call3 := callK_sound mixed tbl_is ents3_ok rules_ok 100000 80

end Go.Proofs.YtaglbcbdeniggaaGreat
