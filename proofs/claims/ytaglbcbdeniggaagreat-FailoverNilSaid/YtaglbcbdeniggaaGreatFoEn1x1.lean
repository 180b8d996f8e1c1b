/- Known calls of level 1. -/
import Derived.Test.YtaglbcbdeniggaaGreatFoLs1
namespace Go.Proofs.YtaglbcbdeniggaaGreat
open Go Go.Eng

def E5 : Known := ⟨[(ag [(vi64 56), (vi64 5), (vi64 2), (vi64 3), (vi64 1)])], [(0, dd)], false, 1, vt, [(0, dd)], 1⟩
set_option maxRecDepth 1000000 in
theorem E5_ok : EntOK Tryz.prog 240 E5 := known_ok (N := 100000) mixed call1_ok h240 E5 (by kernel_rfl) (by kernel_rfl)

def E7 : Known := ⟨[(ag [(vi64 5), (sl 152 0 1 18446744073709551617)])], [(0, dd), (150, ob0), (152, ob1)], false, 153, (tu [(vi64 1), (vi64 1), (vi64 0)]), [(0, dd), (150, ob0), (152, ob1)], 153⟩
set_option maxRecDepth 1000000 in
theorem E7_ok : EntOK Tryz.prog 136 E7 := known_ok (N := 100000) mixed call1_ok h136 E7 (by kernel_rfl) (by kernel_rfl)

def E39 : Known := ⟨[(ag [(vi64 5), (sl 6227 0 1 18446744073709551617)])], [(0, dd), (6225, ob0), (6227, ob94)], false, 6228, (tu [(vi64 1), (vi64 1), (vi64 0)]), [(0, dd), (6225, ob0), (6227, ob94)], 6228⟩
set_option maxRecDepth 1000000 in
theorem E39_ok : EntOK Tryz.prog 136 E39 := known_ok (N := 100000) mixed call1_ok h136 E39 (by kernel_rfl) (by kernel_rfl)

end Go.Proofs.YtaglbcbdeniggaaGreat
