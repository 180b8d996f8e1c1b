/- The calls of level 1. -/
import Derived.Test.YtaglbcbdeniggaaGreatEn0x1
namespace Go.Proofs.YtaglbcbdeniggaaGreat
open Go Go.Eng

def ents1 : Tr (List Known) :=
  (.nd .lf none (.nd (.nd (.nd (.nd .lf none (.nd .lf none (.nd .lf none (.nd .lf (some [E0]) .lf)))) none .lf) none (.nd (.nd .lf none (.nd .lf none (.nd .lf none (.nd .lf (some [E1]) .lf)))) none .lf)) none .lf))
theorem ents1_ok : EntsOK Tryz.prog ents1 := ents_ok (
  (.no .lf (.no (.no (.no (.no .lf (.no .lf (.no .lf (.so (all1 E0_ok all0) .lf .lf)))) .lf) (.no (.no .lf (.no .lf (.no .lf (.so (all1 E1_ok all0) .lf .lf)))) .lf)) .lf)))
noncomputable def call1 : CallK := callK tbl ents1 rules 100000 80
theorem call1_ok : CallOK Tryz.prog call1 := callK_sound mixed tbl_is ents1_ok rules_ok 100000 80

end Go.Proofs.YtaglbcbdeniggaaGreat
