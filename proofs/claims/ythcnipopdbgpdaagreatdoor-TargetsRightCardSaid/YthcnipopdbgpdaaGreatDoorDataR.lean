/- States and results of a closed run. No condition. -/
import Derived.Test.YthcnipopdbgpdaaGreatDoorDataTR
import Derived.Test.YthcnipopdbgpdaaGreatDoorDataTA
import Derived.Test.YthcnipopdbgpdaaGreatDoorDataTX
namespace Go.DM.FM.CR
open Go Go.Proofs
set_option maxRecDepth 100000
noncomputable section
open D
/-- the setting: slices of some types that append begins are blocks -/
def cfg5 : Cfg := { TR.cfg4.or (TA.cfg4.or TX.cfg4) with mutB := fun t => Nat.beq t 75 || Nat.beq t 99 }
def EF3live : Nat := 35184372121053
def EF3fast : Nat := 8191
def EF3code : Code := codeOf cfg5 3
def E1args : List A := []
def E1s0 : St := ⟨mkB [], 0, mkK [], 0⟩
def E1p1 : FF := mkF [(255, .junk), (0, tt)]
def E1z1 : St := ⟨mkB [], 419730, mkK [], 0⟩
def E1res : A := tt
def E1T : CallFact := ⟨3, E1args, E1s0, E1res, E1z1⟩
def E1kb : List Nat := []
def E1kt : List Nat := []
def E1cF : CallF := (fcall cfg5 orc 1000)
end
end Go.DM.FM.CR
