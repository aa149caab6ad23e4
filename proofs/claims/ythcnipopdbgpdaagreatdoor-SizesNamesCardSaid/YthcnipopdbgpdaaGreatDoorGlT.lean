/- What all runs of the seat share: the oracle, the open orders. No condition. -/
import Derived.Test.YthcnipopdbgpdaaGreatDoorPrimsT
import Derived.Test.YthcnipopdbgpdaaGreatDoorFmC
import Derived.Test.YthcnipopdbgpdaaGreatDoorCfgT
namespace Go.DM.FM
open Go Go.Proofs
set_option maxRecDepth 1000000 in
theorem orcs_run : Mt cfg0 Lj = true := by kernel_rfl
theorem B6 : OrcOk cfg0 orc := S6 orcs_run
theorem Am : cfg0.P.follows .mixedOrders = true := Go.Proofs.YthcnipopdbgpdaaGreatDoor.orders
theorem Ku {f : FuncId} {fn : Func} (h : Tryz.prog.funcs[f]? = some fn) : cfg0.P.funcs[f]? = some fn := h
theorem Eg : ∀ g a, cfg0.glob g = some a → D2 a = true := fun _ _ h => by cases h
end Go.DM.FM
