/- The adjustments of decimal digits, in plain numbers. -/
import Derived.Test.YtfjjipkieecpcaaMdPlain
namespace Go.Proofs.Ytfjjipkieecpcaa.Pl

/-- is the lower digit to be put right; the upper one -/
def loB (al : Nat) (af : Bool) : Bool := decide (9 < al % 16) || af
def hiB (al : Nat) (cf : Bool) : Bool := decide (153 < al) || cf
/-- al behind Daa, Das; its carry -/
def pkL (less : Bool) (al : Nat) (af : Bool) : Nat := if loB al af then (if less then (al + 250) % 256 else (al + 6) % 256) else al
def pkA (less : Bool) (al : Nat) (cf af : Bool) : Nat := if hiB al cf then (if less then (pkL less al af + 160) % 256 else (pkL less al af + 96) % 256) else pkL less al af
def pkC (less : Bool) (al : Nat) (cf af : Bool) : Bool := hiB al cf || (less && (loB al af && decide (al < 6)))
/-- al and ah behind Aaa, Aas -/
def apA (less : Bool) (al : Nat) (af : Bool) : Nat := pkL less al af % 16
def apH (less : Bool) (al ah : Nat) (af : Bool) : Nat := if loB al af then (if less then (ah + 255) % 256 else (ah + 1) % 256) else ah
end Go.Proofs.Ytfjjipkieecpcaa.Pl
