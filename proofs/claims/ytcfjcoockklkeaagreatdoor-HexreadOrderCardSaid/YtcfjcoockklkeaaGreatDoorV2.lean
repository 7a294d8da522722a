/-
  num.Upper, digits, Bytes. Conditions: the strings' sizes.
-/
import Derived.Test.YtcfjcoockklkeaaGreatDoorV1
import Derived.Test.YtcfjcoockklkeaaGreatDoorM4
import Derived.Test.YtcfjcoockklkeaaGreatDoorShelf
namespace Go.Proofs.YtcfjcoockklkeaaGreatDoor
open Go.RowKit

def up (c : UInt8) : UInt8 := if 97 ≤ c.toNat ∧ c.toNat ≤ 122 then c - 32 else c
theorem up_step {l : List UInt8} {k : Nat} {c : UInt8} (hk : k < l.length) (HT : l.take (k+1) = l.take k ++ [c]) (HD : l.drop k = c :: l.drop (k+1)) :
    ((l.take k).map up ++ l.drop k).set k (up c) = (l.take (k+1)).map up ++ l.drop (k+1) := by
  rw [HT, HD, List.set_append_right _ _ (by simp; omega)]
  simp [List.length_take, Nat.min_eq_left (Nat.le_of_lt hk)]
theorem up_keep {l : List UInt8} {k : Nat} {c : UInt8} (hc : up c = c) (HT : l.take (k+1) = l.take k ++ [c]) (HD : l.drop k = c :: l.drop (k+1)) :
    (l.take k).map up ++ l.drop k = (l.take (k+1)).map up ++ l.drop (k+1) := by
  rw [HT, HD]; simp [hc]
theorem up_yes {c : UInt8} (h1 : 97 ≤ c.toNat) (h2 : c.toNat ≤ 122) : ((up c).toNat : Int) = (c.toNat : Int) - 97 + 65 := by
  have : (up c).toNat = c.toNat - 32 := by
    unfold up
    rw [if_pos ⟨h1, h2⟩, UInt8.toNat_sub_of_le _ _ (by rw [UInt8.le_iff_toNat_le]; show 32 ≤ c.toNat; omega)]
    rfl
  omega
theorem up_no {c : UInt8} (h : ¬ (97 ≤ c.toNat ∧ c.toNat ≤ 122)) : up c = c := by unfold up; rw [if_neg h]
def upper (s : ByteArray) : ByteArray := ⟨(s.data.toList.map up).toArray⟩
set_option maxHeartbeats 600000 in
theorem Upper_any (s : ByteArray) (w : World) (hs : s.size ≤ 9223372036854775807) :
    Calls Tryz.prog 101 #[.string s] w fun e w' => e = .returned (.string (upper s)) ∧ Below w.heap.size w w' := by
  obtain ⟨cap, w0, hconv, hcap, hb, hsz, hrow⟩ := run_bytes w s
  have HSZ := Lib.hid hsz
  clear hsz
  generalize hl : s.data.toList = l at *
  have hlen : l.length = s.size := by rw [← hl]; simp
  have HL := Lib.hid hl
  have HLEN := Lib.hid hlen
  clear hl hlen
  go_enter Tryz.func101, Tryz.ntmps101
  go_wp2
  go_loopw [4, 5, 10] (fun _ _ i wr => ∃ k : Nat, k ≤ s.size ∧ i = .int .i64 k ∧ ByteRow wr w.heap.size ((l.take k).map up ++ l.drop k) ∧ Below w.heap.size w wr) (fun _ _ i _ => s.size - (intOf i).toNat)
  case atStart => exact ⟨0, Nat.zero_le _, rfl, by simpa using hrow, hb⟩
  case round =>
    clear hconv hrow hb
    obtain ⟨k, hk, rfl, hrow, hb⟩ := hrel
    by_cases hlt : k < s.size
    · have hlt' : k < l.length := by have := HLEN.out; omega
      have hc := hrow.cell k l[k] (by rw [List.getElem?_append_right (by simp; omega)]; simp [Nat.min_eq_left (Nat.le_of_lt hlt')])
      have hf := hrow.free k (by simp; omega)
      have HSET := Lib.hid (hrow.set k (up l[k]))
      have HROW := Lib.hid hrow
      have HT : Hid (l.take (k+1) = l.take k ++ [l[k]]) := List.take_succ_eq_append_getElem hlt'
      have HD : Hid (l.drop k = l[k] :: l.drop (k+1)) := List.drop_eq_getElem_cons hlt'
      clear hrow
      generalize l[k] = c at *
      have hc256 : c.toNat < 256 := c.toNat_lt
      by_cases h1 : 97 ≤ c.toNat
      · by_cases h2 : c.toNat ≤ 122
        · have HU := Lib.hid (up_yes h1 h2)
          go_wp2
          go_roundw
          case rel => exact ⟨k + 1, by omega, by go_num, by rw [← up_step hlt' HT.out HD.out, ← HU.out]; exact HSET.out, hb.setCell (p := ⟨w.heap.size, k, none⟩) (Nat.le_refl _) _⟩
          case measure => simp [intOf]; omega
        · go_wp2
          go_roundw
          case rel => exact ⟨k + 1, by omega, by go_num, by rw [← up_keep (up_no (by omega)) HT.out HD.out]; exact HROW.out, hb⟩
          case measure => simp [intOf]; omega
      · go_wp2
        go_roundw
        case rel => exact ⟨k + 1, by omega, by go_num, by rw [← up_keep (up_no (by omega)) HT.out HD.out]; exact HROW.out, hb⟩
        case measure => simp [intOf]; omega
    · have hk' : k = s.size := by omega
      have hfull : (l.take k).map up ++ l.drop k = l.map up := by
        have := HLEN.out
        rw [List.take_of_length_le (by omega), List.drop_of_length_le (by omega)]; simp
      rw [hfull] at hrow
      have hstr := run_string wr w.heap.size cap (l.map up) hrow
      rw [List.length_map, HLEN.out, ← HL.out] at hstr
      clear hfull hrow hk'
      go_wp2
      go_ret
      exact ⟨rfl, hb⟩
def idxU (c : UInt8) : Nat := if 48 ≤ c.toNat ∧ c.toNat ≤ 57 then c.toNat - 48 else if 65 ≤ c.toNat ∧ c.toNat ≤ 70 then c.toNat - 55 else 99
def hexD : List UInt8 := [48, 49, 50, 51, 52, 53, 54, 55, 56, 57, 65, 66, 67, 68, 69, 70]
def idxI (c : UInt8) : Int := if idxU c = 99 then -1 else idxU c
theorem idx_all : ∀ n, n < 256 → Lib.indexByte hexD (UInt8.ofNat n) = idxI (UInt8.ofNat n) := by decide +kernel
theorem idx_is (c : UInt8) : Lib.indexByte hexD c = idxI c := by
  have := idx_all c.toNat c.toNat_lt
  rwa [UInt8.ofNat_toNat] at this
theorem up_all : ∀ n, n < 256 → idxU (up (UInt8.ofNat n)) = hexV (UInt8.ofNat n) := by decide +kernel
theorem idx_up (c : UInt8) : idxU (up c) = hexV c := by
  have := up_all c.toNat c.toNat_lt
  rwa [UInt8.ofNat_toNat] at this
theorem idx_any (c : UInt8) (w : World) : Calls Tryz.prog 120 #[.string ⟨#[48, 49, 50, 51, 52, 53, 54, 55, 56, 57, 65, 66, 67, 68, 69, 70]⟩, .int .u8 c.toNat] w fun e w' => e = .returned (.int .i64 (idxI c)) ∧ w = w' :=
  (Tryz.strings_IndexByte _ _ _).mono fun e w' ⟨h1, h2⟩ => ⟨by
    rw [h1, ← idx_is]
    have e1 : ((c.toNat : Int).toNat.toUInt8) = c := by
      rw [Int.toNat_natCast]
      exact UInt8.ofNat_toNat
    rw [e1]; rfl, h2.symm⟩
theorem idxI_bad {c : UInt8} (h : 15 < idxU c) : idxI c = -1 := by
  unfold idxI
  rw [if_pos]
  unfold idxU at *
  split at h
  · omega
  · split at h
    · omega
    · rw [if_neg (by assumption), if_neg (by assumption)]
theorem idxI_good {c : UInt8} (h : idxU c ≤ 15) : idxI c = idxU c := by
  unfold idxI
  rw [if_neg (by omega)]
/-- two digits, or none -/
def dig2 (a b : UInt8) : Nat × Bool := if idxU a ≤ 15 ∧ idxU b ≤ 15 then (16 * idxU a + idxU b, true) else (0, false)
set_option maxHeartbeats 2000000 in
set_option maxRecDepth 100000 in
theorem digits2_any (s : ByteArray) (hs : s.size = 2) (w : World) :
    Calls Tryz.prog 103 #[.string s, .int .i64 16] w fun e w' => e = .returned (.tuple #[.int .i64 (dig2 s[0] s[1]).1, .bool (dig2 s[0] s[1]).2]) ∧ w = w' := by
  have hs0 : 0 < s.size := by omega
  have hs1 : 1 < s.size := by omega
  have hsz : (s.size : Int) = 2 := by omega
  have hne : s.toList.isEmpty = false := by
    have hl : s.toList.length = s.size := by rw [ByteArray.toList_eq]; simp
    cases hq : s.toList with
    | nil => rw [hq] at hl; simp at hl; omega
    | cons a l => rfl
  have HX := Lib.hid (fun W => idx_any s[0] W)
  have HY := Lib.hid (fun W => idx_any s[1] W)
  have HXB := Lib.hid (idxI_bad (c := s[0]))
  have HYB := Lib.hid (idxI_bad (c := s[1]))
  have HXG := Lib.hid (idxI_good (c := s[0]))
  have HYG := Lib.hid (idxI_good (c := s[1]))
  have HD : Hid (∀ p q, dig2 s[0] s[1] = (p, q) → (idxU s[0] ≤ 15 ∧ idxU s[1] ≤ 15 ∧ p = 16 * idxU s[0] + idxU s[1] ∧ q = true) ∨ (15 < idxU s[0] ∨ 15 < idxU s[1]) ∧ p = 0 ∧ q = false) := by
    intro p q h
    unfold dig2 at h
    split at h
    · injection h with h1 h2
      exact .inl ⟨by omega, by omega, h1.symm, h2.symm⟩
    · injection h with h1 h2
      exact .inr ⟨by omega, h1.symm, h2.symm⟩
  generalize hdp : dig2 s[0] s[1] = dp at *
  obtain ⟨p, q⟩ := dp
  have HDD := Lib.hid (HD.out p q rfl)
  clear hdp HD
  generalize idxI s[0] = xi at *
  generalize idxI s[1] = yi at *
  generalize idxU s[0] = x at *
  generalize idxU s[1] = y at *
  clear hs
  go_enter Tryz.func103, Tryz.ntmps103
  go_wp2
  go_loop [6, 11] (fun n i => ∃ k m : Nat, i = .int .i64 k ∧ n = .int .i64 m ∧ ((k = 0 ∧ m = 0) ∨ (k = 1 ∧ m = x ∧ x ≤ 15) ∨ (k = 2 ∧ m = 16 * x + y ∧ x ≤ 15 ∧ y ≤ 15))) (fun _ i => 2 - (intOf i).toNat)
  case atStart => exact ⟨0, 0, rfl, rfl, .inl ⟨rfl, rfl⟩⟩
  case round =>
    obtain ⟨k, m, rfl, rfl, h⟩ := hrel
    rcases h with ⟨rfl, rfl⟩ | ⟨rfl, rfl, hx⟩ | ⟨rfl, rfl, hx, hy⟩
    · by_cases hx : x ≤ 15
      · obtain rfl := HXG.out hx
        have hx0 : (x : Int) ≤ 15 := by omega
        go_wp2_with (go_at_call 120; refine (HX.out _).mono ?_; rintro e w1 ⟨rfl, rfl⟩)
        go_round
        case rel => exact ⟨1, x, by go_num, by go_num, .inr (.inl ⟨rfl, rfl, hx⟩)⟩
        case measure => simp [intOf]
      · obtain rfl := HXB.out (by omega)
        obtain ⟨rfl, rfl⟩ : p = 0 ∧ q = false := by
          rcases HDD.out with h | h
          · omega
          · exact h.2
        go_wp2_with (go_at_call 120; refine (HX.out _).mono ?_; rintro e w1 ⟨rfl, rfl⟩)
        go_ret2
        exact ⟨rfl, rfl⟩
    · by_cases hy : y ≤ 15
      · obtain rfl := HYG.out hy
        have hx0 : (m : Int) ≤ 15 := by omega
        have hy0 : (y : Int) ≤ 15 := by omega
        go_wp2_with (go_at_call 120; refine (HY.out _).mono ?_; rintro e w1 ⟨rfl, rfl⟩)
        go_round
        case rel => exact ⟨2, 16 * m + y, by go_num, by go_num, .inr (.inr ⟨rfl, rfl, hx, hy⟩)⟩
        case measure => simp [intOf]
      · obtain rfl := HYB.out (by omega)
        obtain ⟨rfl, rfl⟩ : p = 0 ∧ q = false := by
          rcases HDD.out with h | h
          · omega
          · exact h.2
        have hx0 : (m : Int) ≤ 15 := by omega
        go_wp2_with (go_at_call 120; refine (HY.out _).mono ?_; rintro e w1 ⟨rfl, rfl⟩)
        go_ret2
        exact ⟨rfl, rfl⟩
    · obtain ⟨rfl, rfl⟩ : p = 16 * x + y ∧ q = true := by
        have := HDD.out
        rcases this with h | h
        · exact ⟨h.2.2.1, h.2.2.2⟩
        · omega
      go_wp2
      go_ret2
      exact ⟨by simp, rfl⟩
end Go.Proofs.YtcfjcoockklkeaaGreatDoor
