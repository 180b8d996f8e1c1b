/- The calls of level 2. -/
import Derived.Test.YtaglbcbdeniggaaGreatFoEn1x1
namespace Go.Proofs.YtaglbcbdeniggaaGreat
open Go Go.Eng

def ents2 : Tr (List Known) :=
  (.nd (.nd .lf none (.nd (.nd (.nd (.nd (.nd .lf none (.nd (.nd .lf (some [E48, E47, E34, E33, E27, E26, E25, E24, E23, E22, E21, E20, E19, E18, E17, E16, E15, E14, E13, E12, E11, E10, E9, E8, E4, E3, E2, E1, E0]) .lf) none .lf)) none .lf) none .lf) none .lf) none .lf)) none (.nd (.nd (.nd (.nd .lf none (.nd .lf none (.nd .lf none (.nd .lf (some [E5]) .lf)))) none (.nd (.nd (.nd (.nd .lf (some [E39, E7]) .lf) none .lf) none .lf) none .lf)) none (.nd (.nd .lf none (.nd .lf none (.nd .lf none (.nd .lf (some [E38, E6]) .lf)))) none .lf)) none .lf))
theorem ents2_ok : EntsOK Tryz.prog ents2 := ents_ok (
  (.no (.no .lf (.no (.no (.no (.no (.no .lf (.no (.so (all1 E48_ok (all1 E47_ok (all1 E34_ok (all1 E33_ok (all1 E27_ok (all1 E26_ok (all1 E25_ok (all1 E24_ok (all1 E23_ok (all1 E22_ok (all1 E21_ok (all1 E20_ok (all1 E19_ok (all1 E18_ok (all1 E17_ok (all1 E16_ok (all1 E15_ok (all1 E14_ok (all1 E13_ok (all1 E12_ok (all1 E11_ok (all1 E10_ok (all1 E9_ok (all1 E8_ok (all1 E4_ok (all1 E3_ok (all1 E2_ok (all1 E1_ok (all1 E0_ok all0))))))))))))))))))))))))))))) .lf .lf) .lf)) .lf) .lf) .lf) .lf)) (.no (.no (.no (.no .lf (.no .lf (.no .lf (.so (all1 E5_ok all0) .lf .lf)))) (.no (.no (.no (.so (all1 E39_ok (all1 E7_ok all0)) .lf .lf) .lf) .lf) .lf)) (.no (.no .lf (.no .lf (.no .lf (.so (all1 E38_ok (all1 E6_ok all0)) .lf .lf)))) .lf)) .lf)))
noncomputable def call2 : CallK := callK tbl ents2 rules 100000 80
theorem call2_ok : CallOK Tryz.prog call2 := callK_sound mixed tbl_is ents2_ok rules_ok 100000 80

end Go.Proofs.YtaglbcbdeniggaaGreat
