/-
  No two entries of the table that are no aliases have the same key. Conditions: none.
-/
import Derived.Test.YtmpmciccgempeaaGreatDoorBA14
import Derived.Test.YtmpmciccgempeaaGreatDoorBA13
import Derived.Test.YtmpmciccgempeaaGreatDoorBA12
import Derived.Test.YtmpmciccgempeaaGreatDoorBA11
import Derived.Test.YtmpmciccgempeaaGreatDoorBC1
import Derived.Test.YtmpmciccgempeaaGreatDoorBA10
import Derived.Test.YtmpmciccgempeaaGreatDoorBA9
import Derived.Test.YtmpmciccgempeaaGreatDoorBA4
import Derived.Test.YtmpmciccgempeaaGreatDoorBA1
import Derived.Test.YtmpmciccgempeaaGreatDoorChecked
import Derived.Test.YtmpmciccgempeaaGreatDoorShelf
import Derived.Test.YtmpmciccgempeaaGreatDoorBA2
import Derived.Test.YtmpmciccgempeaaGreatDoorBE1
import Derived.Test.YtmpmciccgempeaaGreatDoorBA3
import Derived.Test.YtmpmciccgempeaaGreatDoorBA7
import Derived.Test.YtmpmciccgempeaaGreatDoorBB2
import Derived.Test.YtmpmciccgempeaaGreatDoorBA6
import Derived.Test.YtmpmciccgempeaaGreatDoorBA5
import Derived.Test.YtmpmciccgempeaaGreatDoorBB1
namespace Go.Proofs.YtmpmciccgempeaaGreatDoor
open Go.RowKit Go.Shelf Go.Sort

theorem insEq_iff {x y : Ins} : fG x y = true ↔ x = y := by cases x; cases y; simp [fG]
def keyO (o : Opd) : Nat := (o.kind.toNat * 16 + o.reg.toNat) * 64 + o.n.toNat
def keyL (l : List Opd) : Nat := l.foldl (fun a o => a * 65536 + keyO o + 1) 0
def keyS (l : List UInt8) : Nat := l.foldl (fun a c => a * 256 + c.toNat) 0
def keyE (x : aL) : Nat := keyS x.iop * 2 ^ 64 + keyL x.args
def keyAt (p : Int) (op : Nat) : Nat := match atF p op with | (some x, _) => if x.al then 0 else keyE x | (none, _) => 0
def keysOf (p : Int) : List Nat := (List.range 256).map (keyAt p)
def noDup : List Nat → Bool
  | [] => true
  | k :: r => (k == 0 || r.all (fun j => !Nat.beq j k)) && noDup r
def apart (l m : List Nat) : Bool := l.all fun k => k == 0 || m.all (fun j => !Nat.beq j k)
theorem nd0 : noDup (keysOf 0) = true := by decide +kernel
theorem nd1 : noDup (keysOf 1) = true := by decide +kernel
theorem nd2 : noDup (keysOf 2) = true := by decide +kernel
theorem nd3 : noDup (keysOf 3) = true := by decide +kernel
theorem nd4 : noDup (keysOf 4) = true := by decide +kernel
theorem nd5 : noDup (keysOf 5) = true := by decide +kernel
theorem nd6 : noDup (keysOf 6) = true := by decide +kernel
theorem ap01 : apart (keysOf 0) (keysOf 1) = true := by decide +kernel
theorem ap02 : apart (keysOf 0) (keysOf 2) = true := by decide +kernel
theorem ap03 : apart (keysOf 0) (keysOf 3) = true := by decide +kernel
theorem ap04 : apart (keysOf 0) (keysOf 4) = true := by decide +kernel
theorem ap05 : apart (keysOf 0) (keysOf 5) = true := by decide +kernel
theorem ap06 : apart (keysOf 0) (keysOf 6) = true := by decide +kernel
theorem ap12 : apart (keysOf 1) (keysOf 2) = true := by decide +kernel
theorem ap13 : apart (keysOf 1) (keysOf 3) = true := by decide +kernel
theorem ap14 : apart (keysOf 1) (keysOf 4) = true := by decide +kernel
theorem ap15 : apart (keysOf 1) (keysOf 5) = true := by decide +kernel
theorem ap16 : apart (keysOf 1) (keysOf 6) = true := by decide +kernel
theorem ap23 : apart (keysOf 2) (keysOf 3) = true := by decide +kernel
theorem ap24 : apart (keysOf 2) (keysOf 4) = true := by decide +kernel
theorem ap25 : apart (keysOf 2) (keysOf 5) = true := by decide +kernel
theorem ap26 : apart (keysOf 2) (keysOf 6) = true := by decide +kernel
theorem ap34 : apart (keysOf 3) (keysOf 4) = true := by decide +kernel
theorem ap35 : apart (keysOf 3) (keysOf 5) = true := by decide +kernel
theorem ap36 : apart (keysOf 3) (keysOf 6) = true := by decide +kernel
theorem ap45 : apart (keysOf 4) (keysOf 5) = true := by decide +kernel
theorem ap46 : apart (keysOf 4) (keysOf 6) = true := by decide +kernel
theorem ap56 : apart (keysOf 5) (keysOf 6) = true := by decide +kernel
theorem all_ne {m : List Nat} {k : Nat} (h : m.all (fun j => !Nat.beq j k) = true) : k ∉ m := fun hk => by
  have := List.all_eq_true.1 h k hk
  simp at this
theorem apart_at {l m : List Nat} (h : apart l m = true) {k : Nat} (hl : k ∈ l) (hm : k ∈ m) : k = 0 := by
  have h1 := List.all_eq_true.1 h k hl
  rw [Bool.or_eq_true] at h1
  rcases h1 with h1 | h1
  · exact beq_iff_eq.1 h1
  · exact absurd hm (all_ne h1)
theorem noDup_at : ∀ {l : List Nat} {i j k : Nat}, noDup l = true → l[i]? = some k → l[j]? = some k → k ≠ 0 → i = j
  | [], _, _, _, _, h, _, _ => by cases h
  | x :: r, i, j, k, h, hi, hj, hk => by
    rw [noDup, Bool.and_eq_true, Bool.or_eq_true] at h
    have hno : x ≠ 0 → x ∉ r := fun hx => by
      rcases h.1 with h1 | h1
      · exact absurd (beq_iff_eq.1 h1) hx
      · exact all_ne h1
    cases i with
    | zero =>
      cases j with
      | zero => rfl
      | succ j =>
        obtain rfl : x = k := Option.some.inj hi
        exact absurd (List.mem_of_getElem? (show r[j]? = some x from hj)) (hno hk)
    | succ i =>
      cases j with
      | zero =>
        obtain rfl : x = k := Option.some.inj hj
        exact absurd (List.mem_of_getElem? (show r[i]? = some x from hi)) (hno hk)
      | succ j => rw [noDup_at (l := r) (i := i) (j := j) h.2 hi hj hk]
def nzAt (p : Int) : Bool := (List.range 256).all fun op => match atF p op with | (some x, _) => x.al || keyE x != 0 | (none, _) => true
theorem nz0 : nzAt 0 = true := by decide +kernel
theorem nz1 : nzAt 1 = true := by decide +kernel
theorem nz2 : nzAt 2 = true := by decide +kernel
theorem nz3 : nzAt 3 = true := by decide +kernel
theorem nz4 : nzAt 4 = true := by decide +kernel
theorem nz5 : nzAt 5 = true := by decide +kernel
theorem nz6 : nzAt 6 = true := by decide +kernel
theorem nz_at {p : Int} (h : nzAt p = true) {a : Nat} (ha : a < 256) {x : aL} (hx : (atF p a).1 = some x) (hl : x.al = false) : keyE x ≠ 0 ∧ (keysOf p)[a]? = some (keyE x) := by
  have h1 := List.all_eq_true.1 h a (List.mem_range.2 ha)
  unfold keysOf
  rw [List.getElem?_map, List.getElem?_range ha, Option.map_some]
  unfold keyAt
  generalize atF p a = r at *
  obtain ⟨r, k⟩ := r
  dsimp only at hx
  subst hx
  dsimp only at h1 ⊢
  rw [hl, Bool.false_or, bne_iff_ne] at h1
  rw [hl]
  exact ⟨h1, rfl⟩
theorem nz_all {p : Int} (h0 : 0 ≤ p) (h7 : p < 7) : nzAt p = true := by
  have : p = 0 ∨ p = 1 ∨ p = 2 ∨ p = 3 ∨ p = 4 ∨ p = 5 ∨ p = 6 := by omega
  rcases this with rfl | rfl | rfl | rfl | rfl | rfl | rfl
  · exact nz0
  · exact nz1
  · exact nz2
  · exact nz3
  · exact nz4
  · exact nz5
  · exact nz6
theorem nd_all {p : Int} (h0 : 0 ≤ p) (h7 : p < 7) : noDup (keysOf p) = true := by
  have : p = 0 ∨ p = 1 ∨ p = 2 ∨ p = 3 ∨ p = 4 ∨ p = 5 ∨ p = 6 := by omega
  rcases this with rfl | rfl | rfl | rfl | rfl | rfl | rfl
  · exact nd0
  · exact nd1
  · exact nd2
  · exact nd3
  · exact nd4
  · exact nd5
  · exact nd6
theorem ap_all {p q : Int} (h0 : 0 ≤ p) (h7 : q < 7) (hpq : p < q) : apart (keysOf p) (keysOf q) = true := by
  have hp : p = 0 ∨ p = 1 ∨ p = 2 ∨ p = 3 ∨ p = 4 ∨ p = 5 := by omega
  rcases hp with rfl | rfl | rfl | rfl | rfl | rfl
  · have hq : q = 1 ∨ q = 2 ∨ q = 3 ∨ q = 4 ∨ q = 5 ∨ q = 6 := by omega
    rcases hq with rfl | rfl | rfl | rfl | rfl | rfl
    · exact ap01
    · exact ap02
    · exact ap03
    · exact ap04
    · exact ap05
    · exact ap06
  · have hq : q = 2 ∨ q = 3 ∨ q = 4 ∨ q = 5 ∨ q = 6 := by omega
    rcases hq with rfl | rfl | rfl | rfl | rfl
    · exact ap12
    · exact ap13
    · exact ap14
    · exact ap15
    · exact ap16
  · have hq : q = 3 ∨ q = 4 ∨ q = 5 ∨ q = 6 := by omega
    rcases hq with rfl | rfl | rfl | rfl
    · exact ap23
    · exact ap24
    · exact ap25
    · exact ap26
  · have hq : q = 4 ∨ q = 5 ∨ q = 6 := by omega
    rcases hq with rfl | rfl | rfl
    · exact ap34
    · exact ap35
    · exact ap36
  · have hq : q = 5 ∨ q = 6 := by omega
    rcases hq with rfl | rfl
    · exact ap45
    · exact ap46
  · have hq : q = 6 := by omega
    rcases hq with rfl
    · exact ap56
theorem once_law (p q : Int) (a b : Nat) (hp : 0 ≤ p ∧ p < 7) (hq : 0 ≤ q ∧ q < 7) (ha : a < 256) (hb : b < 256) (x y : aL) (hx : (atF p a).1 = some x) (hy : (atF q b).1 = some y) (hxl : x.al = false) (hyl : y.al = false) :
    fG ⟨⟨x.iop.toArray⟩, x.args⟩ ⟨⟨y.iop.toArray⟩, y.args⟩ = ((p == q) && ((a : Int) == (b : Int))) := by
  obtain ⟨k1, g1⟩ := nz_at (nz_all hp.1 hp.2) ha hx hxl
  obtain ⟨k2, g2⟩ := nz_at (nz_all hq.1 hq.2) hb hy hyl
  rw [Bool.eq_iff_iff, insEq_iff, Bool.and_eq_true, beq_iff_eq, beq_iff_eq]
  constructor
  · intro e
    injection e with e1 e2
    have e3 : x.iop = y.iop := by
      have := congrArg (fun b : ByteArray => b.data.toList) e1
      simpa using this
    have hk : keyE x = keyE y := by unfold keyE; rw [e3, e2]
    rw [← hk] at g2
    rcases Int.lt_trichotomy p q with h | h | h
    · exact absurd (apart_at (ap_all hp.1 hq.2 h) (List.mem_of_getElem? g1) (List.mem_of_getElem? g2)) k1
    · subst h
      exact ⟨rfl, by rw [noDup_at (nd_all hp.1 hp.2) g1 g2 k1]⟩
    · exact absurd (apart_at (ap_all hq.1 hp.2 h) (List.mem_of_getElem? g2) (List.mem_of_getElem? g1)) k1
  · rintro ⟨rfl, hab⟩
    obtain rfl : a = b := by omega
    obtain rfl : x = y := Option.some.inj (hx.symm.trans hy)
    rfl
end Go.Proofs.YtmpmciccgempeaaGreatDoor
