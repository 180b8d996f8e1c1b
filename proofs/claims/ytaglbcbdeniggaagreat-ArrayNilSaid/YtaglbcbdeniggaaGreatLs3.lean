/- The calls of level 3. -/
import Derived.Test.YtaglbcbdeniggaaGreatEn2x1
import Derived.Test.YtaglbcbdeniggaaGreatEn2x2
import Derived.Test.YtaglbcbdeniggaaGreatEn2x3
namespace Go.Proofs.YtaglbcbdeniggaaGreat
open Go Go.Eng

def ents3 : Tr (List Known) :=
  (.nd (.nd .lf none (.nd (.nd .lf (some [E11, E9]) .lf) none .lf)) none (.nd (.nd (.nd (.nd .lf none (.nd .lf none (.nd .lf none (.nd .lf (some [E0]) .lf)))) none (.nd (.nd (.nd (.nd .lf (some [E2]) .lf) none .lf) none .lf) none .lf)) none (.nd (.nd .lf none (.nd .lf none (.nd .lf none (.nd .lf (some [E1]) .lf)))) none .lf)) none (.nd .lf (some [E10]) (.nd .lf none (.nd .lf none (.nd .lf (some [E7, E6, E5, E4, E3]) .lf))))))
theorem ents3_ok : EntsOK Tryz.prog ents3 := ents_ok (
  (.no (.no .lf (.no (.so (all1 E11_ok (all1 E9_ok all0)) .lf .lf) .lf)) (.no (.no (.no (.no .lf (.no .lf (.no .lf (.so (all1 E0_ok all0) .lf .lf)))) (.no (.no (.no (.so (all1 E2_ok all0) .lf .lf) .lf) .lf) .lf)) (.no (.no .lf (.no .lf (.no .lf (.so (all1 E1_ok all0) .lf .lf)))) .lf)) (.so (all1 E10_ok all0) .lf (.no .lf (.no .lf (.so (all1 E7_ok (all1 E6_ok (all1 E5_ok (all1 E4_ok (all1 E3_ok all0))))) .lf .lf)))))))
noncomputable def call3 : CallK := callK tbl ents3 rules 100000 80
theorem call3_ok : CallOK Tryz.prog call3 := callK_sound mixed tbl_is ents3_ok rules_ok 100000 80

end Go.Proofs.YtaglbcbdeniggaaGreat
