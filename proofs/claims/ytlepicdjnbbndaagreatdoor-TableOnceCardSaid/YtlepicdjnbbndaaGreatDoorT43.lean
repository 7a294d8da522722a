/-
  No two legal entries that are no aliases have the same key. Conditions: none.
-/
import Derived.Test.YtlepicdjnbbndaaGreatDoorTI
namespace Go.Proofs.YtlepicdjnbbndaaGreatDoor
open Go.RowKit Go.Shelf Go.Sort

def keyO (o : Opd) : Nat := (o.kind.toNat * 16 + o.reg.toNat) * 64 + o.n.toNat
def keyL (l : List Opd) : Nat := l.foldl (fun a o => a * 65536 + keyO o + 1) 0
def keyS (l : List UInt8) : Nat := l.foldl (fun a c => a * 256 + c.toNat) 0
def keyE (x : EntV) : Nat := keyS x.iop * 2 ^ 64 + keyL x.args
def keyAt (p : Int) (op : Nat) : Nat := match atF p op with | (some x, _) => if x.al then 0 else keyE x | (none, _) => 0
def keysOf (p : Int) : List Nat := (List.range 256).map (keyAt p)
def noDup : List Nat → Bool
  | [] => true
  | k :: r => (k == 0 || r.all (fun j => !Nat.beq j k)) && noDup r
def apart (l m : List Nat) : Bool := l.all fun k => k == 0 || m.all (fun j => !Nat.beq j k)
theorem nd0 : noDup (keysOf 0) = true := by decide +kernel
theorem nd1 : noDup (keysOf 1) = true := by decide +kernel
theorem nd2 : noDup (keysOf 2) = true := by decide +kernel
theorem nd3 : noDup (keysOf 3) = true := by decide +kernel
theorem nd4 : noDup (keysOf 4) = true := by decide +kernel
theorem nd5 : noDup (keysOf 5) = true := by decide +kernel
theorem nd6 : noDup (keysOf 6) = true := by decide +kernel
theorem ap01 : apart (keysOf 0) (keysOf 1) = true := by decide +kernel
theorem ap02 : apart (keysOf 0) (keysOf 2) = true := by decide +kernel
theorem ap03 : apart (keysOf 0) (keysOf 3) = true := by decide +kernel
theorem ap04 : apart (keysOf 0) (keysOf 4) = true := by decide +kernel
theorem ap05 : apart (keysOf 0) (keysOf 5) = true := by decide +kernel
theorem ap06 : apart (keysOf 0) (keysOf 6) = true := by decide +kernel
theorem ap12 : apart (keysOf 1) (keysOf 2) = true := by decide +kernel
theorem ap13 : apart (keysOf 1) (keysOf 3) = true := by decide +kernel
theorem ap14 : apart (keysOf 1) (keysOf 4) = true := by decide +kernel
theorem ap15 : apart (keysOf 1) (keysOf 5) = true := by decide +kernel
theorem ap16 : apart (keysOf 1) (keysOf 6) = true := by decide +kernel
theorem ap23 : apart (keysOf 2) (keysOf 3) = true := by decide +kernel
theorem ap24 : apart (keysOf 2) (keysOf 4) = true := by decide +kernel
theorem ap25 : apart (keysOf 2) (keysOf 5) = true := by decide +kernel
theorem ap26 : apart (keysOf 2) (keysOf 6) = true := by decide +kernel
theorem ap34 : apart (keysOf 3) (keysOf 4) = true := by decide +kernel
theorem ap35 : apart (keysOf 3) (keysOf 5) = true := by decide +kernel
theorem ap36 : apart (keysOf 3) (keysOf 6) = true := by decide +kernel
theorem ap45 : apart (keysOf 4) (keysOf 5) = true := by decide +kernel
theorem ap46 : apart (keysOf 4) (keysOf 6) = true := by decide +kernel
theorem ap56 : apart (keysOf 5) (keysOf 6) = true := by decide +kernel
end Go.Proofs.YtlepicdjnbbndaaGreatDoor
