/- What (class.Set).Each hands on, one by one: the bytes of the set. -/
import Derived.Test.YtlkccnhkenmkdaaGreatDoorMF
import Derived.Test.YtlkccnhkenmkdaaGreatDoorME
namespace Go.Proofs.YtlkccnhkenmkdaaGreatDoor
set_option linter.unusedSimpArgs false
set_option linter.unusedVariables false
set_option linter.unnecessarySimpa false
noncomputable section
/-- Has a set of these words a byte? -/
def wordN (a b c d x : Nat) : Nat := bq (Nat.blt x 64) a (bq (Nat.blt x 128) b (bq (Nat.blt x 192) c d))
def hasN (a b c d x : Nat) : Bool := Nat.beq (Nat.land (Nat.div (wordN a b c d x) (Nat.pow 2 (Nat.mod x 64))) 1) 1
def eachL (f : Nat → Bool) (n : Nat) : Nat → List AV := Nat.rec (motive := fun _ => Nat → List AV) (fun _ => []) (fun _ ih i => bq (f i) (.int 255 (.ofNat i) :: stN (Nat.succ i) ih) (stN (Nat.succ i) ih)) n
def leM (a : Nat) : Bool := Nat.ble a 18446744073709551615
def eachG (k1 k2 k3 k4 a b c d : Nat) : Option (List AV) := bq (and (and (Nat.beq k1 18446744073709551615) (Nat.beq k2 18446744073709551615)) (and (Nat.beq k3 18446744073709551615) (Nat.beq k4 18446744073709551615))) (bq (and (and (leM a) (leM b)) (and (leM c) (leM d))) (some (eachL (hasN a b c d) 256 0)) none) none
def eachQ : List AV → Option (List AV)
  | [.agg [.int k1 (.ofNat a), .int k2 (.ofNat b), .int k3 (.ofNat c), .int k4 (.ofNat d)]] => eachG k1 k2 k3 k4 a b c d
  | _ => none
def sqT (g : Nat) : Option (List AV → Option (List AV)) := bq (Nat.beq g 182) (some eachQ) none
def CS (mx : Int) : Cx := (C0 mx).seqd sqT
end
end Go.Proofs.YtlkccnhkenmkdaaGreatDoor
