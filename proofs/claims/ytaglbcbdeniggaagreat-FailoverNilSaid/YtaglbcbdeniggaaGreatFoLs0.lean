/- The calls of level 0. -/
import Derived.Test.YtaglbcbdeniggaaGreatFoTb
import Derived.Test.YtaglbcbdeniggaaGreatFoOb1
namespace Go.Proofs.YtaglbcbdeniggaaGreat
open Go Go.Eng

def ents0 : Tr (List Known) :=
  .lf
theorem ents0_ok : EntsOK Tryz.prog ents0 := ents_ok (
  .lf)
noncomputable def call0 : CallK := callK tbl ents0 rules 100000 80
theorem call0_ok : CallOK Tryz.prog call0 := callK_sound mixed tbl_is ents0_ok rules_ok 100000 80

end Go.Proofs.YtaglbcbdeniggaaGreat
