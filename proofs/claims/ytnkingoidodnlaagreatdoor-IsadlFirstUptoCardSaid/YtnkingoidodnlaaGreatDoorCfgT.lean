/- The setting of layer 4's statements: the program, and the library's functions by hand. No condition. -/
import Derived.Test.YtnkingoidodnlaaGreatDoorRuleU
import Derived.Test.YtnkingoidodnlaaGreatDoorProg
namespace Go.DM
open Go Go.Proofs
noncomputable def cfg : Cfg := { P := Tryz.prog, glob := fun _ => none, prim := fun f => if f = 62 then some indexByteG else if f = 92 then some itoaG else if f = 103 then some containsRuneG else if f = 104 then some (atoiG 232) else if f = 106 then some fieldsG else if f = 160 then some trimG else if f = 161 then some cutG else none }
end Go.DM
