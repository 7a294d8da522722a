/-
  table.fits, lookup. Conditions: sizes.
-/
import Derived.Test.YtlepicdjnbbndaaGreatDoorT2
namespace Go.Proofs.YtlepicdjnbbndaaGreatDoor
open Go.RowKit Go.Shelf

/-- does an opcode fit the bits from number i on -/
def fitsG (op : Nat) : Nat → List UInt8 → Bool
  | _, [] => true
  | i, c :: r => if 8 ≤ i then true else (if c = 48 ∨ c = 49 then decide (c.toNat - 48 = op / 2 ^ (7 - i) % 2) else true) && fitsG op (i + 1) r
def fitsF (t : List UInt8) (op : Nat) : Bool := fitsG op 0 t && !t.isEmpty
theorem fitsG_step (op : Nat) (t : List UInt8) (k : Nat) (hk : k < t.length) (h8 : k < 8) : fitsG op k (t.drop k) = ((if t[k] = 48 ∨ t[k] = 49 then decide (t[k].toNat - 48 = op / 2 ^ (7 - k) % 2) else true) && fitsG op (k + 1) (t.drop (k + 1))) := by
  rw [List.drop_eq_getElem_cons hk, fitsG, if_neg (by omega)]
theorem fitsG_end (op : Nat) (t : List UInt8) (k : Nat) (h : k = min t.length 8) : fitsG op k (t.drop k) = true := by
  by_cases hk : k < t.length
  · rw [List.drop_eq_getElem_cons hk, fitsG, if_pos (by omega)]
  · rw [List.drop_eq_nil_of_le (by omega), fitsG]
theorem and1_u8 : ∀ x : Fin 256, bits .and .u8 (x.val : Int) 1 = ((x.val % 2 : Nat) : Int) := by decide +kernel
theorem shr_and1 (op k : Nat) (hop : op < 256) : bits .and .u8 ((op : Int) / 2 ^ k) 1 = ((op / 2 ^ k % 2 : Nat) : Int) := by
  have h1 : op / 2 ^ k < 256 := Nat.lt_of_le_of_lt (Nat.div_le_self _ _) hop
  have h2 := and1_u8 ⟨op / 2 ^ k, h1⟩
  have h3 : ((op : Int) / 2 ^ k) = ((op / 2 ^ k : Nat) : Int) := by simp
  rw [h3]
  exact h2
set_option maxHeartbeats 2000000 in
set_option maxRecDepth 100000 in
theorem tfits_any (t : ByteArray) (op : Nat) (hop : op < 256) (w : World) (hs : t.size ≤ 1000000) :
    Calls Tryz.prog 67 #[.string t, .int .u8 op] w fun e w' => e = .returned (.bool (fitsF t.data.toList op)) ∧ w' = w := by
  have hs1 : (t.size : Int) ≤ 1000000 := by omega
  have hmin : min (t.size : Int) 8 = ((min t.size 8 : Nat) : Int) := by omega
  obtain ⟨m, hm⟩ : ∃ m, m = min t.size 8 := ⟨_, rfl⟩
  rw [← hm] at hmin
  have hm8 : m ≤ 8 := by omega
  have hmt : m ≤ t.size := by omega
  have HST := Lib.hid (fitsG_step op t.data.toList)
  have HEN := Lib.hid (fitsG_end op t.data.toList m (by simpa using hm))
  have HRR : Hid (fitsF t.data.toList op = (fitsG op 0 t.data.toList && !t.data.toList.isEmpty)) := Lib.hid rfl
  generalize fitsF t.data.toList op = R at *
  clear hm
  go_enter Tryz.func67, Tryz.ntmps67
  go_wp2
  go_loopw [10] (fun i wr => ∃ k : Nat, k ≤ m ∧ i = .int .i64 k ∧ wr = w ∧ fitsG op 0 t.data.toList = fitsG op k (t.data.toList.drop k)) (fun i _ => m - (intOf i).toNat)
  case atStart => exact ⟨0, Nat.zero_le _, rfl, rfl, by rw [List.drop_zero]⟩
  case round =>
    obtain ⟨k, hk, rfl, rfl, hx⟩ := hrel
    have HX := Lib.hid hx
    clear hx
    by_cases hlt : k < m
    · have hkt : k < t.size := by omega
      have HS := Lib.hid (HST.out k (by simpa using hkt) (by omega))
      have e1 : t.data.toList[k]'(by simpa using hkt) = t[k] := rfl
      rw [e1] at HS
      clear e1
      have hk7 : (k : Int) ≤ 7 := by omega
      have hsb := shr_and1 op (7 - k) hop
      have hb2 : op / 2 ^ (7 - k) % 2 < 2 := Nat.mod_lt _ (by omega)
      generalize op / 2 ^ (7 - k) % 2 = b at *
      by_cases h48 : t[k] = 48
      · have hc : (t[k].toNat : Int) = 48 := by rw [h48]; rfl
        have hb1 : ((t[k].toNat : Int) == 48) = true := by rw [hc]; rfl
        by_cases hb : b = 0
        · subst hb
          have HN : Hid (fitsG op k (t.data.toList.drop k) = fitsG op (k + 1) (t.data.toList.drop (k + 1))) := by show _ = _; rw [HS.out, h48]; rfl
          clear h48
          go_wp2
          go_roundw
          case rel => exact ⟨k + 1, by omega, by go_num, trivial, HX.out.trans HN.out⟩
          case measure => simp [intOf]; omega
        · obtain rfl : b = 1 := by omega
          have HN : Hid (fitsG op k (t.data.toList.drop k) = false) := by show _ = _; rw [HS.out, h48]; rfl
          clear h48
          go_wp2
          go_ret
          exact ⟨ret_bool (by rw [HRR.out, HX.out, HN.out]; rfl), rfl⟩
      · by_cases h49 : t[k] = 49
        · have hc : (t[k].toNat : Int) = 49 := by rw [h49]; rfl
          have hb1 : ((t[k].toNat : Int) == 49) = true := by rw [hc]; rfl
          have hb0 : ((t[k].toNat : Int) == 48) = false := by rw [hc]; rfl
          by_cases hb : b = 1
          · subst hb
            have HN : Hid (fitsG op k (t.data.toList.drop k) = fitsG op (k + 1) (t.data.toList.drop (k + 1))) := by show _ = _; rw [HS.out, h49]; rfl
            clear h48 h49
            go_wp2
            go_roundw
            case rel => exact ⟨k + 1, by omega, by go_num, trivial, HX.out.trans HN.out⟩
            case measure => simp [intOf]; omega
          · obtain rfl : b = 0 := by omega
            have HN : Hid (fitsG op k (t.data.toList.drop k) = false) := by show _ = _; rw [HS.out, h49]; rfl
            clear h48 h49
            go_wp2
            go_ret
            exact ⟨ret_bool (by rw [HRR.out, HX.out, HN.out]; rfl), rfl⟩
        · have hb1 : ((t[k].toNat : Int) == 49) = false := by rw [beq_eq_false_iff_ne]; exact fun e => h49 (UInt8.toNat_inj.1 (by have h : (49 : UInt8).toNat = 49 := rfl; omega))
          have hb0 : ((t[k].toNat : Int) == 48) = false := by rw [beq_eq_false_iff_ne]; exact fun e => h48 (UInt8.toNat_inj.1 (by have h : (48 : UInt8).toNat = 48 := rfl; omega))
          have HN : Hid (fitsG op k (t.data.toList.drop k) = fitsG op (k + 1) (t.data.toList.drop (k + 1))) := by show _ = _; rw [HS.out, if_neg (by rintro (h | h); exact h48 h; exact h49 h)]; rfl
          clear h48 h49
          go_wp2
          go_roundw
          case rel => exact ⟨k + 1, by omega, by go_num, trivial, HX.out.trans HN.out⟩
          case measure => simp [intOf]; omega
    · obtain rfl : k = m := by omega
      have HE : Hid (fitsG op 0 t.data.toList = true) := Lib.hid (HX.out.trans HEN.out)
      have HNE : Hid (R = !t.data.toList.isEmpty) := by show _ = _; rw [HRR.out, HE.out]; rfl
      go_wp2
      go_ret
      exact ⟨ret_bool (by rw [HNE.out, Go.ByteArray.toList_eq]), rfl⟩

/-- the first text that an opcode fits -/
def lookF (op : Nat) : List (List UInt8) → Option (List UInt8)
  | [] => none
  | x :: r => if fitsF x op = true then some x else lookF op r
theorem lookF_none {op : Nat} : ∀ {L : List (List UInt8)}, (∀ x ∈ L, fitsF x op = false) → lookF op L = none
  | [], _ => rfl
  | x :: r, h => by rw [lookF, if_neg (by rw [h x (by simp)]; exact Bool.false_ne_true), lookF_none (fun y hy => h y (by simp [hy]))]
theorem lookF_some {op : Nat} {x : List UInt8} : ∀ {pre r : List (List UInt8)}, (∀ y ∈ pre, fitsF y op = false) → fitsF x op = true → lookF op (pre ++ x :: r) = some x
  | [], r, _, h => by show lookF op (x :: r) = _; rw [lookF, if_pos h]
  | y :: pre, r, hp, h => by
    show lookF op (y :: (pre ++ x :: r)) = _
    rw [lookF, if_neg (by rw [hp y (by simp)]; exact Bool.false_ne_true), lookF_some (fun z hz => hp z (by simp [hz])) h]
def lookP (w : World) (o : Option (List UInt8)) (e : Ending) (w' : World) : Prop :=
  e = .returned (match o with | some x => .tuple #[.string ⟨x.toArray⟩, .bool true] | none => .tuple #[.string ⟨#[]⟩, .bool false]) ∧ Below w.heap.size w w'
/-- the blocks of lookup's own: the opcode, the two results -/
structure LkB (w0 : World) (b : Nat) (op : Nat) (v1 v2 : Value) (w : World) : Prop where
  op : Blk w b 5 #[.int .u8 op]
  r1 : Blk w (b + 1) 9 #[v1]
  r2 : Blk w (b + 2) 4 #[v2]
  below : Below w0.heap.size w0 w
  at_ : w0.heap.size ≤ b
theorem Blk.ownBF {w w' : World} {g bx B : Nat} {t : TypeId} {cs : Array Value} {row : Option Nat} (h : Blk w g t cs) (hne : g ≠ bx) (hg : w.grownBy w' row) (hr : ∀ r, row = some r → r = bx ∨ (B ≤ r ∧ ∃ o : Obj, w.heap[r]? = some o ∧ o.isCells = false)) : Blk w' g t cs :=
  (hg.block g h.lt (fun e => by
    rcases hr g e.symm with h1 | ⟨_, o, ho, hc⟩
    · exact hne h1
    · have hk : w.heap[g]? = some (.cells cs t (0, 0)) := h
      rw [hk] at ho
      injection ho with ho
      subst ho
      cases hc)).trans h
theorem LkB.own {w0 : World} {b op bx B : Nat} {v1 v2 : Value} (hbx : b + 2 < bx) (hB : w0.heap.size ≤ B) {w w' : World} {row : Option Nat} (h : LkB w0 b op v1 v2 w) (hg : w.grownBy w' row) (hr : ∀ r, row = some r → r = bx ∨ (B ≤ r ∧ ∃ o : Obj, w.heap[r]? = some o ∧ o.isCells = false)) : LkB w0 b op v1 v2 w' :=
  ⟨h.op.ownBF (by omega) hg hr, h.r1.ownBF (by omega) hg hr, h.r2.ownBF (by omega) hg hr, h.below.grown hg h.below.size (fun k hk => by
    have := h.at_
    rcases hr k hk with h1 | ⟨h1, _⟩ <;> omega), h.at_⟩
end Go.Proofs.YtlepicdjnbbndaaGreatDoor
