/- Known calls of level 1. -/
import Derived.Test.YtaglbcbdeniggaaGreatLs1
namespace Go.Proofs.YtaglbcbdeniggaaGreat
open Go Go.Eng

def E2 : Known := ⟨[(ag [(vi64 5), (sl 173 0 1 18446744073709551617)])], [(0, dd), (171, ob0), (173, ob1)], false, 174, (tu [(vi64 1), (vi64 1), (vi64 0)]), [(0, dd), (171, ob0), (173, ob1)], 174⟩
set_option maxRecDepth 1000000 in
theorem E2_ok : EntOK Tryz.prog 136 E2 := known_ok (N := 100000) mixed call1_ok h136 E2 (by kernel_rfl) (by kernel_rfl)

end Go.Proofs.YtaglbcbdeniggaaGreat
