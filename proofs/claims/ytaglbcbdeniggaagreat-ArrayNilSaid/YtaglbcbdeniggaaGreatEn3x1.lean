/- Known calls of level 3. -/
import Derived.Test.YtaglbcbdeniggaaGreatLs3
namespace Go.Proofs.YtaglbcbdeniggaaGreat
open Go Go.Eng

def E8 : Known := ⟨[(b 0), (s0 0 0)], [(0, dd)], true, 1, (tu [(p 5 0), vt]), [(0, dd), (4, (cl (rp 5 (vi64 0)) 1)), (5, ob55), (6, ob56), (18, ob0), (19, ob57), (38, ob58), (39, ob4), (41, ob59), (42, ob6), (44, ob60), (45, ob7), (54, ob61), (55, ob20), (57, ob62), (58, ob21), (60, ob63), (61, ob22), (70, ob64), (71, ob29), (73, ob65), (74, ob30), (76, ob66), (77, ob31), (86, ob67), (87, ob38), (89, ob68), (90, ob39), (92, ob69), (93, ob40), (102, ob70), (103, ob47), (105, ob71), (106, ob48), (108, ob72), (109, ob49), (111, ob52), (171, ob0), (173, ob1), (214, ob73), (215, ob52), (216, ob53), (217, (cl (rp 5 vf) 1)), (338, (cl (rp 5 (vu64 0)) 1)), (342, ob9), (343, ob10), (635, ob16), (636, ob17), (640, ob18), (932, ob16), (933, ob27), (937, ob18), (1229, ob16), (1230, ob36), (1234, ob18), (1526, ob16), (1527, ob45), (1531, ob18), (1823, ob16), (1824, ob54), (1828, ob18), (2133, ob74), (2156, ob75), (2182, ob74), (2205, ob75), (2231, ob74), (2254, ob75), (2280, ob74), (2303, ob75), (2329, ob74), (2352, ob75), (2367, ob74), (2373, ob75), (2385, ob74), (2391, ob75), (2403, ob74), (2409, ob75), (2421, ob74), (2427, ob75), (2439, ob74), (2445, ob75), (2451, (cl (rp 5 vf) 1)), (2738, ob76), (2761, ob77), (3053, ob78), (3076, ob79), (3368, ob80), (3391, ob81), (3683, ob82), (3706, ob83), (3998, ob84), (4021, ob85), (4036, ob76), (4042, ob77), (4054, ob78), (4060, ob79), (4072, ob80), (4078, ob81), (4090, ob82), (4096, ob83), (4108, ob84), (4114, ob85), (4119, ob86)], 4120⟩
set_option maxRecDepth 1000000 in
theorem E8_ok : EntOK Tryz.prog 31 E8 := known_ok (N := 100000) mixed call3_ok h31 E8 (by kernel_rfl) (by kernel_rfl)

end Go.Proofs.YtaglbcbdeniggaaGreat
