/- Known calls of level 4. -/
import Derived.Test.YtaglbcbdeniggaaGreatLs4
namespace Go.Proofs.YtaglbcbdeniggaaGreat
open Go Go.Eng

def E12 : Known := ⟨[], [(0, dd)], false, 1, vt, [(0, dd)], 1⟩
set_option maxRecDepth 1000000 in
theorem E12_ok : EntOK Tryz.prog 5 E12 := known_ok (N := 100000) mixed call4_ok h5 E12 (by kernel_rfl) (by kernel_rfl)

end Go.Proofs.YtaglbcbdeniggaaGreat
