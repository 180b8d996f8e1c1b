/- The program, in the order of evaluation that it follows. -/
import Derived.Test.YtaglbcbdeniggaaGreatEng3
import Derived.Test.YtaglbcbdeniggaaGreatProg
import Derived.KernelRfl
namespace Go.Proofs.YtaglbcbdeniggaaGreat
open Go Go.Eng

theorem mixed : Tryz.prog.follows .mixedOrders = true := by kernel_rfl

end Go.Proofs.YtaglbcbdeniggaaGreat
