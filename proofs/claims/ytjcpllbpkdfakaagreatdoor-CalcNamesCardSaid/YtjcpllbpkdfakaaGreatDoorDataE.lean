/- States and results of a closed run. No condition. -/
import Derived.Test.YtjcpllbpkdfakaaGreatDoorDataK
namespace Go.DM.FM
open Go Go.Proofs
set_option maxRecDepth 100000
noncomputable section
open D
def EF3live : Nat := 1
def EF3fast : Nat := 3
def EF3code : Code := codeOf cfg5 3
def E1args : List A := []
def E1s0 : St := ⟨mkB [], 0, mkK [], 0⟩
def E1p1 : FF := mkF [(255, .junk), (0, tt)]
def E1z1 : St := ⟨mkB [], 142170, mkK [], 242⟩
end
end Go.DM.FM
namespace Go.DM.FM
open Go Go.Proofs
set_option maxRecDepth 100000
noncomputable section
open D
def E1res : A := tt
def E1T : CallFact := ⟨3, E1args, E1s0, E1res, E1z1⟩
def E1kb : List Nat := []
def E1kt : List Nat := []
def E1cF : CallF := (fcall cfg5 orc 1000)
end
end Go.DM.FM
