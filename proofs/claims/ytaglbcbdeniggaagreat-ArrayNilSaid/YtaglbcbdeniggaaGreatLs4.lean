/- The calls of level 4. -/
import Derived.Test.YtaglbcbdeniggaaGreatEn3x1
namespace Go.Proofs.YtaglbcbdeniggaaGreat
open Go Go.Eng

def ents4 : Tr (List Known) :=
  (.nd (.nd (.nd (.nd (.nd (.nd .lf (some [E8]) .lf) none .lf) none .lf) none .lf) none (.nd (.nd .lf (some [E11, E9]) .lf) none .lf)) none (.nd (.nd (.nd (.nd .lf none (.nd .lf none (.nd .lf none (.nd .lf (some [E0]) .lf)))) none (.nd (.nd (.nd (.nd .lf (some [E2]) .lf) none .lf) none .lf) none .lf)) none (.nd (.nd .lf none (.nd .lf none (.nd .lf none (.nd .lf (some [E1]) .lf)))) none .lf)) none (.nd .lf (some [E10]) (.nd .lf none (.nd .lf none (.nd .lf (some [E7, E6, E5, E4, E3]) .lf))))))
theorem ents4_ok : EntsOK Tryz.prog ents4 := ents_ok (
  (.no (.no (.no (.no (.no (.so (all1 E8_ok all0) .lf .lf) .lf) .lf) .lf) (.no (.so (all1 E11_ok (all1 E9_ok all0)) .lf .lf) .lf)) (.no (.no (.no (.no .lf (.no .lf (.no .lf (.so (all1 E0_ok all0) .lf .lf)))) (.no (.no (.no (.so (all1 E2_ok all0) .lf .lf) .lf) .lf) .lf)) (.no (.no .lf (.no .lf (.no .lf (.so (all1 E1_ok all0) .lf .lf)))) .lf)) (.so (all1 E10_ok all0) .lf (.no .lf (.no .lf (.so (all1 E7_ok (all1 E6_ok (all1 E5_ok (all1 E4_ok (all1 E3_ok all0))))) .lf .lf)))))))
noncomputable def call4 : CallK := callK tbl ents4 rules 100000 80
theorem call4_ok : CallOK Tryz.prog call4 := callK_sound mixed tbl_is ents4_ok rules_ok 100000 80

end Go.Proofs.YtaglbcbdeniggaaGreat
