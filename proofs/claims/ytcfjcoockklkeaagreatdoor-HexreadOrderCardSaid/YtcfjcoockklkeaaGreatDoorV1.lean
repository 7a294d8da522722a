/-
  breadboardref01.digit, Bytes. Conditions: the string's size.
-/
import Derived.Test.YtcfjcoockklkeaaGreatDoorM2
namespace Go.Proofs.YtcfjcoockklkeaaGreatDoor
open Go.RowKit

theorem hexV_cases (c : UInt8) : (48 ≤ c.toNat ∧ c.toNat ≤ 57 → hexV c = c.toNat - 48) ∧ (97 ≤ c.toNat ∧ c.toNat ≤ 102 → hexV c = c.toNat - 87) ∧ (65 ≤ c.toNat ∧ c.toNat ≤ 70 → hexV c = c.toNat - 55) ∧
    (¬ (48 ≤ c.toNat ∧ c.toNat ≤ 57) ∧ ¬ (97 ≤ c.toNat ∧ c.toNat ≤ 102) ∧ ¬ (65 ≤ c.toNat ∧ c.toNat ≤ 70) → hexV c = 99) := by
  unfold hexV
  refine ⟨fun h => ?_, fun h => ?_, fun h => ?_, fun h => ?_⟩
  · rw [if_pos h]
  · rw [if_neg (by omega), if_pos h]; omega
  · rw [if_neg (by omega), if_neg (by omega), if_pos h]; omega
  · rw [if_neg h.1, if_neg h.2.1, if_neg h.2.2]
theorem hexV_le (c : UInt8) : hexV c ≤ 99 := by
  have := hexV_cases c
  omega
set_option maxHeartbeats 1000000 in
theorem digit_any (c : UInt8) (w : World) :
    Calls Tryz.prog 81 #[.int .u8 c.toNat] w fun e w' => e = .returned (.int .i64 (hexV c)) ∧ w = w' := by
  have hc := c.toNat_lt
  have HV := Lib.hid (hexV_cases c)
  rcases (by omega : c.toNat < 48 ∨ (48 ≤ c.toNat ∧ c.toNat ≤ 57) ∨ (57 < c.toNat ∧ c.toNat < 65) ∨ (65 ≤ c.toNat ∧ c.toNat ≤ 70) ∨ (70 < c.toNat ∧ c.toNat < 97) ∨ (97 ≤ c.toNat ∧ c.toNat ≤ 102) ∨ 102 < c.toNat) with h | ⟨h, h'⟩ | ⟨h, h'⟩ | ⟨h, h'⟩ | ⟨h, h'⟩ | ⟨h, h'⟩ | h
  all_goals
    generalize hexV c = x at *
    generalize c.toNat = n at *
    go_enter Tryz.func81, Tryz.ntmps81
    go_wp2
    go_ret
    exact ⟨ret_int (by have := HV.out; omega), rfl⟩
/-- the bytes, or none -/
def BytesP (w : World) (l : List UInt8) (e : Ending) (w' : World) : Prop :=
  ((bytesH l = none ∧ e = .returned (.tuple #[.slice none 0 0, .bool false])) ∨ ∃ v ys, bytesH l = some ys ∧ e = .returned (.tuple #[v, .bool true]) ∧ Own byteR w' w.heap.size 5 NoB v ys) ∧ Below w.heap.size w w'
theorem bytesH_odd : ∀ l : List UInt8, l.length % 2 = 1 → bytesH l = none
  | [], h => by simp at h
  | [_], _ => rfl
  | a :: b :: r, h => by
    rw [bytesH, bytesH_odd r (by simp at h; omega)]
    split <;> rfl
theorem drop_two {l : List UInt8} {i : Nat} (h : i + 1 < l.length) : l.drop i = l[i] :: l[i+1] :: l.drop (i + 2) := by
  rw [List.drop_eq_getElem_cons (by omega), List.drop_eq_getElem_cons h]
theorem bytesH_bad {l : List UInt8} {i : Nat} (h : i + 1 < l.length) (hx : 15 < hexV l[i] ∨ 15 < hexV l[i+1]) : bytesH (l.drop i) = none := by
  rw [drop_two h, bytesH, if_pos hx]
theorem bytesH_good {l ys : List UInt8} {i : Nat} (h : i + 1 < l.length) (hx : hexV l[i] ≤ 15) (hy : hexV l[i+1] ≤ 15) (hb : bytesH l = (bytesH (l.drop i)).map (ys ++ ·)) :
    bytesH l = (bytesH (l.drop (i + 2))).map ((ys ++ [UInt8.ofNat (16 * hexV l[i] + hexV l[i+1])]) ++ ·) := by
  rw [hb, drop_two h, bytesH, if_neg (by omega), Option.map_map]
  congr 1
  funext z
  simp
theorem bytesH_end {l ys : List UInt8} {i : Nat} (h : l.length ≤ i) (hb : bytesH l = (bytesH (l.drop i)).map (ys ++ ·)) : bytesH l = some ys := by
  rw [hb, List.drop_eq_nil_of_le h, bytesH]
  simp
theorem ofNat_toNat {n : Nat} (h : n < 256) : (UInt8.ofNat n).toNat = n := by
  rw [UInt8.toNat_ofNat']
  omega
set_option maxHeartbeats 2000000 in
set_option maxRecDepth 100000 in
theorem Bytes01_any (s : ByteArray) (w : World) (hs : s.size ≤ 1000000) :
    Calls Tryz.prog 49 #[.string s] w (BytesP w s.data.toList) := by
  have hs1 : (s.size : Int) ≤ 1000000 := by omega
  have HLEN : Hid (s.data.toList.length = s.size) := by show _ = _; simp
  by_cases hev : s.size % 2 = 1
  · have HN : Hid (bytesH s.data.toList = none) := bytesH_odd _ (by rw [HLEN.out]; exact hev)
    have hm : (s.size : Int) % 2 = 1 := by omega
    go_enter Tryz.func49, Tryz.ntmps49
    go_wp2
    go_ret2
    exact ⟨.inl ⟨HN.out, rfl⟩, Below.refl _ _⟩
  · have hm : (s.size : Int) % 2 = 0 := by omega
    have HEV : Hid (s.size % 2 = 0) := by show _ = _; omega
    clear hev
    go_enter Tryz.func49, Tryz.ntmps49
    go_wp2
    clear hm
    go_loopw [4, 5] (fun v i wr => ∃ (k : Nat) (ys : List UInt8), k ≤ s.size ∧ k % 2 = 0 ∧ i = .int .i64 k ∧ ys.length ≤ k ∧ Own byteR wr w.heap.size 5 NoB v ys ∧ bytesH s.data.toList = (bytesH (s.data.toList.drop k)).map (ys ++ ·) ∧ Below w.heap.size w wr) (fun _ i _ => s.size - (intOf i).toNat)
    case atStart => exact ⟨0, [], Nat.zero_le _, rfl, rfl, Nat.le_refl _, Own.nil _ _ _ _ _, by simp, Below.refl _ _⟩
    case round =>
      obtain ⟨k, ys, hk, hk2, rfl, hyl, ho, hbh, hb⟩ := hrel
      have HO := Lib.hid ho
      have HBH := Lib.hid hbh
      have HB := Lib.hid hb
      have HK2 := Lib.hid hk2
      obtain ⟨a, c, rfl⟩ := ho.form
      clear ho hbh hb hk2
      by_cases hlt : k < s.size
      · have hlt1 : k + 1 < s.size := by have := HK2.out; have := HEV.out; omega
        have hll : k + 1 < s.data.toList.length := by rw [HLEN.out]; exact hlt1
        have e1 : s.data.toList[k]'(by omega) = s[k] := rfl
        have e2 : s.data.toList[k+1] = s[k+1] := rfl
        have HBAD := Lib.hid (bytesH_bad hll)
        have HGOOD := Lib.hid (fun hx hy => bytesH_good hll hx hy HBH.out)
        rw [e1, e2] at HBAD HGOOD
        have HX := Lib.hid (fun W => digit_any s[k] W)
        have HY := Lib.hid (fun W => digit_any s[k+1] W)
        have hx9 := hexV_le s[k]
        have hy9 := hexV_le s[k+1]
        clear e1 e2
        have hi0 : (0 : Int) ≤ (k : Int) + 1 := by omega
        have hi1 : (k : Int) + 1 < (s.size : Int) := by omega
        have hi2 : ((k : Int) + 1).toNat = k + 1 := by omega
        generalize hexV s[k] = x at *
        generalize hexV s[k+1] = y at *
        by_cases hx : x ≤ 15
        · by_cases hy : y ≤ 15
          · have HCS : Hid ((#[.int .u8 (16 * (x : Int) + (y : Int))] : Array Value) = ([.int .u8 (UInt8.ofNat (16 * x + y)).toNat] : List Value).toArray) := by
              show _ = _
              rw [ofNat_toNat (by omega)]
              simp
            have HC1 : Hid ((ys.length + 1) * 1 ≤ 140737488355328) := by show _ ≤ _; omega
            have HC2 : Hid (ys.length + 1 ≤ 9223372036854775807) := by show _ ≤ _; omega
            go_wp2_with (first
              | (go_at_call 81; with_reducible refine (HX.out _).mono ?_; rintro e w1 ⟨rfl, rfl⟩)
              | (go_at_call 81; with_reducible refine (HY.out _).mono ?_; rintro e w2 ⟨rfl, rfl⟩)
              | (at_builtin; refine wpList_push rfl (.tmp 33) (.tmp 39) 55 rfl w.heap.size 5 1 elByte _ ys (UInt8.ofNat (16 * x + y)) _ rfl rfl HO.out HCS.out HC1.out HC2.out HB.out.size ?_; intro a' c' w' hp; have HP := Lib.hid hp; clear hp))
            go_roundw
            case rel => exact ⟨k + 2, ys ++ [UInt8.ofNat (16 * x + y)], by omega, by have := HK2.out; omega, by go_num, by simp; omega, HP.out.1, HGOOD.out hx hy, HB.out.grown HP.out.2 HB.out.size (fun j hj => (HO.out.lt j hj).1)⟩
            case measure => simp [intOf]; omega
          · have HN : Hid (bytesH s.data.toList = none) := by show _ = _; rw [HBH.out, HBAD.out (.inr (by omega))]; rfl
            have hy' : 15 < y := by omega
            go_wp2_with (first
              | (go_at_call 81; with_reducible refine (HX.out _).mono ?_; rintro e w1 ⟨rfl, rfl⟩)
              | (go_at_call 81; with_reducible refine (HY.out _).mono ?_; rintro e w2 ⟨rfl, rfl⟩))
            go_ret2
            exact ⟨.inl ⟨HN.out, rfl⟩, HB.out⟩
        · have HN : Hid (bytesH s.data.toList = none) := by show _ = _; rw [HBH.out, HBAD.out (.inl (by omega))]; rfl
          have hx' : 15 < x := by omega
          go_wp2_with (first
            | (go_at_call 81; with_reducible refine (HX.out _).mono ?_; rintro e w1 ⟨rfl, rfl⟩)
            | (go_at_call 81; with_reducible refine (HY.out _).mono ?_; rintro e w2 ⟨rfl, rfl⟩))
          go_ret2
          exact ⟨.inl ⟨HN.out, rfl⟩, HB.out⟩
      · have HE : Hid (bytesH s.data.toList = some ys) := bytesH_end (by rw [HLEN.out]; omega) HBH.out
        go_wp2
        go_ret2
        exact ⟨.inr ⟨_, ys, HE.out, rfl, HO.out⟩, HB.out⟩
end Go.Proofs.YtcfjcoockklkeaaGreatDoor
