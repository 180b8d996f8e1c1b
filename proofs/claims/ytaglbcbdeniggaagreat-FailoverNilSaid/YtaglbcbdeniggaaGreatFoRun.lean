/- The run of the law. -/
import Derived.Test.YtaglbcbdeniggaaGreatFoLs7
namespace Go.Proofs.YtaglbcbdeniggaaGreat
open Go Go.Eng

def entsT : Tr (List Known) :=
  (.nd .lf none (.nd .lf none (.nd .lf none (.nd (.nd .lf (some [E53]) .lf) none .lf))))
theorem entsT_ok : EntsOK Tryz.prog entsT := ents_ok (
  (.no .lf (.no .lf (.no .lf (.no (.so (all1 E53_ok all0) .lf .lf) .lf)))))
noncomputable def callT : CallK := callK tbl entsT rules 100000 80
theorem callT_ok : CallOK Tryz.prog callT := callK_sound mixed tbl_is entsT_ok rules_ok 100000 80

set_option maxRecDepth 1000000 in
/-- The law's run, at every number. -/
theorem run (n : Int) : Runs Tryz.prog 4 [.int .i64 n] (hOf [(0, .dead)] 1) fun v _ => v = .bool true := by
  have h : fnK callT 100000 A4 [.int .i64 n] (hOf [(0, .dead)] 1) (fun v _ => valEq2 v (.bool true)) = true := by kernel_rfl
  have hr := fnK_sound mixed callT_ok h4 h
  exact ⟨hr.1, fun μ w args h1 h2 => calls_mono (fun en w' => RPost.mono fun v H' hv => valEq2_eq hv) (hr.2 μ w args h1 h2)⟩

end Go.Proofs.YtaglbcbdeniggaaGreat
