/- Known calls of level 6. -/
import Derived.Test.YtaglbcbdeniggaaGreatFoLs6
namespace Go.Proofs.YtaglbcbdeniggaaGreat
open Go Go.Eng

def E53 : Known := ⟨[], [(0, dd)], false, 1, vt, [(0, dd)], 1⟩
set_option maxRecDepth 1000000 in
theorem E53_ok : EntOK Tryz.prog 22 E53 := known_ok (N := 100000) mixed call6_ok h22 E53 (by kernel_rfl) (by kernel_rfl)

end Go.Proofs.YtaglbcbdeniggaaGreat
