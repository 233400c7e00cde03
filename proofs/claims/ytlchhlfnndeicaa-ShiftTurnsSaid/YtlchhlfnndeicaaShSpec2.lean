/- What Do and Double of layer 2 answer, counts of 0 with them. -/
import Derived.Test.YtlchhlfnndeicaaShDblA
namespace Go.Proofs.Ytlchhlfnndeicaa.Pl
/-- a double shift's result and flags; a count of 0 turns nothing -/
def dDoR (to : Bool) (b x y k : Nat) : Nat := if k = 0 then x else dblR to b x y k
def dDoF (to : Bool) (b x y k fl : Nat) : Nat := if k = 0 then fl else dblF to b x y k fl
end Go.Proofs.Ytlchhlfnndeicaa.Pl
