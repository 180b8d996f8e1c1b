/- Known calls of level 0. -/
import Derived.Test.YtaglbcbdeniggaaGreatLs0
namespace Go.Proofs.YtaglbcbdeniggaaGreat
open Go Go.Eng

def E0 : Known := ⟨[(ag [(vi64 56), (vi64 5), (vi64 2), (vi64 3), (vi64 1)])], [(0, dd)], false, 1, vt, [(0, dd)], 1⟩
set_option maxRecDepth 1000000 in
theorem E0_ok : EntOK Tryz.prog 240 E0 := known_ok (N := 100000) mixed call0_ok h240 E0 (by kernel_rfl) (by kernel_rfl)

def E1 : Known := ⟨[(ag [(vi64 5), (sl 173 0 1 18446744073709551617)])], [(0, dd), (171, ob0), (173, ob1)], false, 174, vt, [(0, dd), (171, ob0), (173, ob1)], 174⟩
set_option maxRecDepth 1000000 in
theorem E1_ok : EntOK Tryz.prog 244 E1 := known_ok (N := 100000) mixed call0_ok h244 E1 (by kernel_rfl) (by kernel_rfl)

end Go.Proofs.YtaglbcbdeniggaaGreat
