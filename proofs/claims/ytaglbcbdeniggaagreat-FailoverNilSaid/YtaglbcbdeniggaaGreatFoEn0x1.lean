/- Known calls of level 0. -/
import Derived.Test.YtaglbcbdeniggaaGreatFoLs0
namespace Go.Proofs.YtaglbcbdeniggaaGreat
open Go Go.Eng

def E0 : Known := ⟨[(vi64 56), (vi64 0), (vi64 16384)], [(0, dd)], false, 1, vt, [(0, dd)], 1⟩
set_option maxRecDepth 1000000 in
theorem E0_ok : EntOK Tryz.prog 321 E0 := known_ok (N := 100000) mixed call0_ok h321 E0 (by kernel_rfl) (by kernel_rfl)

def E1 : Known := ⟨[(vi64 5), (vi64 1), (vi64 64)], [(0, dd)], false, 1, vt, [(0, dd)], 1⟩
set_option maxRecDepth 1000000 in
theorem E1_ok : EntOK Tryz.prog 321 E1 := known_ok (N := 100000) mixed call0_ok h321 E1 (by kernel_rfl) (by kernel_rfl)

def E2 : Known := ⟨[(vi64 2), (vi64 1), (vi64 16)], [(0, dd)], false, 1, vt, [(0, dd)], 1⟩
set_option maxRecDepth 1000000 in
theorem E2_ok : EntOK Tryz.prog 321 E2 := known_ok (N := 100000) mixed call0_ok h321 E2 (by kernel_rfl) (by kernel_rfl)

def E3 : Known := ⟨[(vi64 3), (vi64 1), (vi64 64)], [(0, dd)], false, 1, vt, [(0, dd)], 1⟩
set_option maxRecDepth 1000000 in
theorem E3_ok : EntOK Tryz.prog 321 E3 := known_ok (N := 100000) mixed call0_ok h321 E3 (by kernel_rfl) (by kernel_rfl)

def E4 : Known := ⟨[(vi64 1), (vi64 0), (vi64 3)], [(0, dd)], false, 1, vt, [(0, dd)], 1⟩
set_option maxRecDepth 1000000 in
theorem E4_ok : EntOK Tryz.prog 321 E4 := known_ok (N := 100000) mixed call0_ok h321 E4 (by kernel_rfl) (by kernel_rfl)

def E6 : Known := ⟨[(ag [(vi64 5), (sl 152 0 1 18446744073709551617)])], [(0, dd), (150, ob0), (152, ob1)], false, 153, vt, [(0, dd), (150, ob0), (152, ob1)], 153⟩
set_option maxRecDepth 1000000 in
theorem E6_ok : EntOK Tryz.prog 244 E6 := known_ok (N := 100000) mixed call0_ok h244 E6 (by kernel_rfl) (by kernel_rfl)

def E8 : Known := ⟨[(vi64 0), (vi64 56), (vi64 85)], [(0, dd)], false, 1, vf, [(0, dd)], 1⟩
set_option maxRecDepth 1000000 in
theorem E8_ok : EntOK Tryz.prog 321 E8 := known_ok (N := 100000) mixed call0_ok h321 E8 (by kernel_rfl) (by kernel_rfl)

def E9 : Known := ⟨[(vi64 1), (vi64 56), (vi64 85)], [(0, dd)], false, 1, vf, [(0, dd)], 1⟩
set_option maxRecDepth 1000000 in
theorem E9_ok : EntOK Tryz.prog 321 E9 := known_ok (N := 100000) mixed call0_ok h321 E9 (by kernel_rfl) (by kernel_rfl)

def E10 : Known := ⟨[(vi64 2), (vi64 56), (vi64 85)], [(0, dd)], false, 1, vf, [(0, dd)], 1⟩
set_option maxRecDepth 1000000 in
theorem E10_ok : EntOK Tryz.prog 321 E10 := known_ok (N := 100000) mixed call0_ok h321 E10 (by kernel_rfl) (by kernel_rfl)

def E11 : Known := ⟨[(vi64 3), (vi64 56), (vi64 85)], [(0, dd)], false, 1, vf, [(0, dd)], 1⟩
set_option maxRecDepth 1000000 in
theorem E11_ok : EntOK Tryz.prog 321 E11 := known_ok (N := 100000) mixed call0_ok h321 E11 (by kernel_rfl) (by kernel_rfl)

def E12 : Known := ⟨[(vi64 4), (vi64 56), (vi64 85)], [(0, dd)], false, 1, vf, [(0, dd)], 1⟩
set_option maxRecDepth 1000000 in
theorem E12_ok : EntOK Tryz.prog 321 E12 := known_ok (N := 100000) mixed call0_ok h321 E12 (by kernel_rfl) (by kernel_rfl)

def E13 : Known := ⟨[(vi64 5), (vi64 56), (vi64 85)], [(0, dd)], false, 1, vf, [(0, dd)], 1⟩
set_option maxRecDepth 1000000 in
theorem E13_ok : EntOK Tryz.prog 321 E13 := known_ok (N := 100000) mixed call0_ok h321 E13 (by kernel_rfl) (by kernel_rfl)

def E14 : Known := ⟨[(vi64 6), (vi64 56), (vi64 85)], [(0, dd)], false, 1, vf, [(0, dd)], 1⟩
set_option maxRecDepth 1000000 in
theorem E14_ok : EntOK Tryz.prog 321 E14 := known_ok (N := 100000) mixed call0_ok h321 E14 (by kernel_rfl) (by kernel_rfl)

def E15 : Known := ⟨[(vi64 7), (vi64 56), (vi64 85)], [(0, dd)], false, 1, vf, [(0, dd)], 1⟩
set_option maxRecDepth 1000000 in
theorem E15_ok : EntOK Tryz.prog 321 E15 := known_ok (N := 100000) mixed call0_ok h321 E15 (by kernel_rfl) (by kernel_rfl)

def E16 : Known := ⟨[(vi64 8), (vi64 56), (vi64 85)], [(0, dd)], false, 1, vf, [(0, dd)], 1⟩
set_option maxRecDepth 1000000 in
theorem E16_ok : EntOK Tryz.prog 321 E16 := known_ok (N := 100000) mixed call0_ok h321 E16 (by kernel_rfl) (by kernel_rfl)

def E17 : Known := ⟨[(vi64 9), (vi64 56), (vi64 85)], [(0, dd)], false, 1, vf, [(0, dd)], 1⟩
set_option maxRecDepth 1000000 in
theorem E17_ok : EntOK Tryz.prog 321 E17 := known_ok (N := 100000) mixed call0_ok h321 E17 (by kernel_rfl) (by kernel_rfl)

def E18 : Known := ⟨[(vi64 10), (vi64 56), (vi64 85)], [(0, dd)], false, 1, vf, [(0, dd)], 1⟩
set_option maxRecDepth 1000000 in
theorem E18_ok : EntOK Tryz.prog 321 E18 := known_ok (N := 100000) mixed call0_ok h321 E18 (by kernel_rfl) (by kernel_rfl)

def E19 : Known := ⟨[(vi64 11), (vi64 56), (vi64 85)], [(0, dd)], false, 1, vf, [(0, dd)], 1⟩
set_option maxRecDepth 1000000 in
theorem E19_ok : EntOK Tryz.prog 321 E19 := known_ok (N := 100000) mixed call0_ok h321 E19 (by kernel_rfl) (by kernel_rfl)

def E20 : Known := ⟨[(vi64 40), (vi64 56), (vi64 85)], [(0, dd)], false, 1, vf, [(0, dd)], 1⟩
set_option maxRecDepth 1000000 in
theorem E20_ok : EntOK Tryz.prog 321 E20 := known_ok (N := 100000) mixed call0_ok h321 E20 (by kernel_rfl) (by kernel_rfl)

def E21 : Known := ⟨[(vi64 0), (vi64 0), (vi64 4)], [(0, dd)], false, 1, vt, [(0, dd)], 1⟩
set_option maxRecDepth 1000000 in
theorem E21_ok : EntOK Tryz.prog 321 E21 := known_ok (N := 100000) mixed call0_ok h321 E21 (by kernel_rfl) (by kernel_rfl)

def E22 : Known := ⟨[(vi64 0), (vi64 0), (vi64 1)], [(0, dd)], false, 1, vt, [(0, dd)], 1⟩
set_option maxRecDepth 1000000 in
theorem E22_ok : EntOK Tryz.prog 321 E22 := known_ok (N := 100000) mixed call0_ok h321 E22 (by kernel_rfl) (by kernel_rfl)

def E23 : Known := ⟨[(vi64 0), (vi64 0), (vi64 2)], [(0, dd)], false, 1, vt, [(0, dd)], 1⟩
set_option maxRecDepth 1000000 in
theorem E23_ok : EntOK Tryz.prog 321 E23 := known_ok (N := 100000) mixed call0_ok h321 E23 (by kernel_rfl) (by kernel_rfl)

def E24 : Known := ⟨[(vi64 1), (vi64 0), (vi64 4)], [(0, dd)], false, 1, vt, [(0, dd)], 1⟩
set_option maxRecDepth 1000000 in
theorem E24_ok : EntOK Tryz.prog 321 E24 := known_ok (N := 100000) mixed call0_ok h321 E24 (by kernel_rfl) (by kernel_rfl)

def E25 : Known := ⟨[(vi64 2), (vi64 0), (vi64 4)], [(0, dd)], false, 1, vt, [(0, dd)], 1⟩
set_option maxRecDepth 1000000 in
theorem E25_ok : EntOK Tryz.prog 321 E25 := known_ok (N := 100000) mixed call0_ok h321 E25 (by kernel_rfl) (by kernel_rfl)

def E26 : Known := ⟨[(vi64 3), (vi64 0), (vi64 4)], [(0, dd)], false, 1, vt, [(0, dd)], 1⟩
set_option maxRecDepth 1000000 in
theorem E26_ok : EntOK Tryz.prog 321 E26 := known_ok (N := 100000) mixed call0_ok h321 E26 (by kernel_rfl) (by kernel_rfl)

def E27 : Known := ⟨[(vi64 4), (vi64 0), (vi64 4)], [(0, dd)], false, 1, vt, [(0, dd)], 1⟩
set_option maxRecDepth 1000000 in
theorem E27_ok : EntOK Tryz.prog 321 E27 := known_ok (N := 100000) mixed call0_ok h321 E27 (by kernel_rfl) (by kernel_rfl)

def E33 : Known := ⟨[(vi64 26), (vi64 56), (vi64 85)], [(0, dd)], false, 1, vf, [(0, dd)], 1⟩
set_option maxRecDepth 1000000 in
theorem E33_ok : EntOK Tryz.prog 321 E33 := known_ok (N := 100000) mixed call0_ok h321 E33 (by kernel_rfl) (by kernel_rfl)

def E34 : Known := ⟨[(vi64 27), (vi64 56), (vi64 85)], [(0, dd)], false, 1, vf, [(0, dd)], 1⟩
set_option maxRecDepth 1000000 in
theorem E34_ok : EntOK Tryz.prog 321 E34 := known_ok (N := 100000) mixed call0_ok h321 E34 (by kernel_rfl) (by kernel_rfl)

def E38 : Known := ⟨[(ag [(vi64 5), (sl 6227 0 1 18446744073709551617)])], [(0, dd), (6225, ob0), (6227, ob94)], false, 6228, vt, [(0, dd), (6225, ob0), (6227, ob94)], 6228⟩
set_option maxRecDepth 1000000 in
theorem E38_ok : EntOK Tryz.prog 244 E38 := known_ok (N := 100000) mixed call0_ok h244 E38 (by kernel_rfl) (by kernel_rfl)

def E47 : Known := ⟨[(vi64 12), (vi64 56), (vi64 85)], [(0, dd)], false, 1, vf, [(0, dd)], 1⟩
set_option maxRecDepth 1000000 in
theorem E47_ok : EntOK Tryz.prog 321 E47 := known_ok (N := 100000) mixed call0_ok h321 E47 (by kernel_rfl) (by kernel_rfl)

def E48 : Known := ⟨[(vi64 13), (vi64 56), (vi64 85)], [(0, dd)], false, 1, vf, [(0, dd)], 1⟩
set_option maxRecDepth 1000000 in
theorem E48_ok : EntOK Tryz.prog 321 E48 := known_ok (N := 100000) mixed call0_ok h321 E48 (by kernel_rfl) (by kernel_rfl)

end Go.Proofs.YtaglbcbdeniggaaGreat
