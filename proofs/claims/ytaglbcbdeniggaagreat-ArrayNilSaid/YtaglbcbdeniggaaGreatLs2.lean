/- The calls of level 2. -/
import Derived.Test.YtaglbcbdeniggaaGreatEn1x1
namespace Go.Proofs.YtaglbcbdeniggaaGreat
open Go Go.Eng

def ents2 : Tr (List Known) :=
  (.nd .lf none (.nd (.nd (.nd (.nd .lf none (.nd .lf none (.nd .lf none (.nd .lf (some [E0]) .lf)))) none (.nd (.nd (.nd (.nd .lf (some [E2]) .lf) none .lf) none .lf) none .lf)) none (.nd (.nd .lf none (.nd .lf none (.nd .lf none (.nd .lf (some [E1]) .lf)))) none .lf)) none .lf))
theorem ents2_ok : EntsOK Tryz.prog ents2 := ents_ok (
  (.no .lf (.no (.no (.no (.no .lf (.no .lf (.no .lf (.so (all1 E0_ok all0) .lf .lf)))) (.no (.no (.no (.so (all1 E2_ok all0) .lf .lf) .lf) .lf) .lf)) (.no (.no .lf (.no .lf (.no .lf (.so (all1 E1_ok all0) .lf .lf)))) .lf)) .lf)))
noncomputable def call2 : CallK := callK tbl ents2 rules 100000 80
theorem call2_ok : CallOK Tryz.prog call2 := callK_sound mixed tbl_is ents2_ok rules_ok 100000 80

end Go.Proofs.YtaglbcbdeniggaaGreat
