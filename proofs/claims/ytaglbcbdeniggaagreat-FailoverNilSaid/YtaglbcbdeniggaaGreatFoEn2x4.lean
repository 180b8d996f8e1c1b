/- Known calls of level 2. -/
import Derived.Test.YtaglbcbdeniggaaGreatFoLs2
namespace Go.Proofs.YtaglbcbdeniggaaGreat
open Go Go.Eng

def E40 : Known := ⟨[(p 13 0), (vu64 2), (vi64 2)], [(0, dd), (4, ob87), (13, ob88), (14, ob4), (16, ob57), (17, ob6), (19, ob58), (20, ob7), (2112, ob72), (2135, ob73), (2346, ob72), (2352, ob73), (2717, ob74), (2740, ob75), (4015, ob74), (4021, ob75)], true, 6300, (tu [(p 6304 0), (vi64 0)]), [(0, dd), (4, ob95), (13, ob96), (14, ob4), (16, ob57), (17, ob6), (19, ob58), (20, ob7), (2112, ob72), (2135, ob73), (2346, ob72), (2352, ob73), (2717, ob74), (2740, ob75), (4015, ob74), (4021, ob75), (6304, ob97), (6308, ob18), (6765, ob16)], 6766⟩
set_option maxRecDepth 1000000 in
theorem E40_ok : EntOK Tryz.prog 218 E40 := known_ok (N := 100000) mixed call2_ok h218 E40 (by kernel_rfl) (by kernel_rfl)

def E41 : Known := ⟨[(p 29 0), (vu64 2), (vi64 2)], [(0, dd), (4, ob95), (29, ob89), (30, ob20), (32, ob60), (33, ob21), (35, ob61), (36, ob22), (2161, ob72), (2184, ob73), (2364, ob72), (2370, ob73), (3032, ob76), (3055, ob77), (4033, ob76), (4039, ob77)], true, 6795, (tu [(p 6799 0), (vi64 0)]), [(0, dd), (4, ob98), (29, ob99), (30, ob20), (32, ob60), (33, ob21), (35, ob61), (36, ob22), (2161, ob72), (2184, ob73), (2364, ob72), (2370, ob73), (3032, ob76), (3055, ob77), (4033, ob76), (4039, ob77), (6799, ob100), (6803, ob18), (7260, ob16)], 7261⟩
set_option maxRecDepth 1000000 in
theorem E41_ok : EntOK Tryz.prog 218 E41 := known_ok (N := 100000) mixed call2_ok h218 E41 (by kernel_rfl) (by kernel_rfl)

def E42 : Known := ⟨[(p 45 0), (vu64 2), (vi64 2)], [(0, dd), (4, ob98), (45, ob90), (46, ob29), (48, ob63), (49, ob30), (51, ob64), (52, ob31), (2210, ob72), (2233, ob73), (2382, ob72), (2388, ob73), (3347, ob78), (3370, ob79), (4051, ob78), (4057, ob79)], true, 7290, (tu [(p 7294 0), (vi64 0)]), [(0, dd), (4, ob101), (45, ob102), (46, ob29), (48, ob63), (49, ob30), (51, ob64), (52, ob31), (2210, ob72), (2233, ob73), (2382, ob72), (2388, ob73), (3347, ob78), (3370, ob79), (4051, ob78), (4057, ob79), (7294, ob103), (7298, ob18), (7755, ob16)], 7756⟩
set_option maxRecDepth 1000000 in
theorem E42_ok : EntOK Tryz.prog 218 E42 := known_ok (N := 100000) mixed call2_ok h218 E42 (by kernel_rfl) (by kernel_rfl)

def E43 : Known := ⟨[(p 61 0), (vu64 2), (vi64 2)], [(0, dd), (4, ob101), (61, ob91), (62, ob38), (64, ob66), (65, ob39), (67, ob67), (68, ob40), (2259, ob72), (2282, ob73), (2400, ob72), (2406, ob73), (3662, ob80), (3685, ob81), (4069, ob80), (4075, ob81)], true, 7785, (tu [(p 7789 0), (vi64 0)]), [(0, dd), (4, ob104), (61, ob105), (62, ob38), (64, ob66), (65, ob39), (67, ob67), (68, ob40), (2259, ob72), (2282, ob73), (2400, ob72), (2406, ob73), (3662, ob80), (3685, ob81), (4069, ob80), (4075, ob81), (7789, ob106), (7793, ob18), (8250, ob16)], 8251⟩
set_option maxRecDepth 1000000 in
theorem E43_ok : EntOK Tryz.prog 218 E43 := known_ok (N := 100000) mixed call2_ok h218 E43 (by kernel_rfl) (by kernel_rfl)

def E44 : Known := ⟨[(p 77 0), (vu64 2), (vi64 2)], [(0, dd), (4, ob104), (77, ob92), (78, ob47), (80, ob69), (81, ob48), (83, ob70), (84, ob49), (2308, ob72), (2331, ob73), (2418, ob72), (2424, ob73), (3977, ob82), (4000, ob83), (4087, ob82), (4093, ob83)], true, 8280, (tu [(p 8284 0), (vi64 0)]), [(0, dd), (4, ob107), (77, ob108), (78, ob47), (80, ob69), (81, ob48), (83, ob70), (84, ob49), (2308, ob72), (2331, ob73), (2418, ob72), (2424, ob73), (3977, ob82), (4000, ob83), (4087, ob82), (4093, ob83), (8284, ob109), (8288, ob18), (8745, ob16)], 8746⟩
set_option maxRecDepth 1000000 in
theorem E44_ok : EntOK Tryz.prog 218 E44 := known_ok (N := 100000) mixed call2_ok h218 E44 (by kernel_rfl) (by kernel_rfl)

end Go.Proofs.YtaglbcbdeniggaaGreat
