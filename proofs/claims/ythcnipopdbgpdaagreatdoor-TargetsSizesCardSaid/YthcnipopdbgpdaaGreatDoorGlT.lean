/- What all runs of the seat share: the oracle, the open orders. No condition. -/
import Derived.Test.YthcnipopdbgpdaaGreatDoorPrimsT
import Derived.Test.YthcnipopdbgpdaaGreatDoorFmC
import Derived.Test.YthcnipopdbgpdaaGreatDoorCfgT
namespace Go.DM.FM
open Go Go.Proofs
set_option maxRecDepth 1000000 in
theorem Wg : orcChk cfg0 Nj = true := by kernel_rfl
theorem orcs_cfg0 : OrcOk cfg0 orc := orc_ok Wg
theorem orders_cfg0 : cfg0.P.follows .mixedOrders = true := Go.Proofs.YthcnipopdbgpdaaGreatDoor.orders
theorem func_cfg0 {f : FuncId} {fn : Func} (h : Tryz.prog.funcs[f]? = some fn) : cfg0.P.funcs[f]? = some fn := h
theorem globs0 : ∀ g a, cfg0.glob g = some a → Dg a = true := fun _ _ h => by cases h
end Go.DM.FM
