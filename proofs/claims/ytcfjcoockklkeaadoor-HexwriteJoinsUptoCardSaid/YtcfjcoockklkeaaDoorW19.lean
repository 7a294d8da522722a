/-
  breadboardref04.Dump. Conditions: sizes, addresses.
-/
import Derived.Test.YtcfjcoockklkeaaDoorW18
namespace Go.Proofs.YtcfjcoockklkeaaDoor
open Go.RowKit

theorem hex1_4 (a : Nat) (ha : a ≤ 65535) (w : World) : Calls Tryd.prog 48 #[.int .i64 a, .int .i64 4] w fun e w' => e = .returned (.string ⟨(hexs a 4).toArray⟩) ∧ w = w' := (Hex01_any a 4 w (by omega) (by omega)).mono fun e w' h => by
  obtain ⟨⟨s, rfl, hs⟩, rfl⟩ := h
  exact ⟨by rw [ba_of hs], rfl⟩
theorem hex1_2 (x : UInt8) (w : World) : Calls Tryd.prog 48 #[.int .i64 x.toNat, .int .i64 2] w fun e w' => e = .returned (.string ⟨(byteTxt x).toArray⟩) ∧ w = w' := (Hex01_any x.toNat 2 w (by have := x.toNat_lt; omega) (by omega)).mono fun e w' h => by
  obtain ⟨⟨s, rfl, hs⟩, rfl⟩ := h
  exact ⟨by rw [ba_of hs]; rfl, rfl⟩
def dst (m : List CellV) (k : Nat) : List UInt8 × Option Nat := (m.take k).foldl dstep ([], none)
theorem dst_succ {m : List CellV} {k : Nat} (hk : k < m.length) : dst m (k + 1) = dstep (dst m k) m[k] := by
  unfold dst
  rw [List.take_succ_eq_append_getElem hk, List.foldl_append]
  rfl
theorem dstep_len (s : List UInt8 × Option Nat) (c : CellV) : (dstep s c).1.length ≤ s.1.length + 10 := by
  unfold dstep
  have h4 := hexs_len 4 c.addr
  have h2 := byteTxt_len c.byte
  dsimp only
  split <;> split <;> simp [h4, h2]
theorem dst_len (m : List CellV) : ∀ k, k ≤ m.length → (dst m k).1.length ≤ 10 * k
  | 0, _ => by simp [dst]
  | k + 1, h => by
    rw [dst_succ (Nat.lt_of_succ_le h)]
    have := dstep_len (dst m k) (m[k]'(Nat.lt_of_succ_le h))
    have := dst_len m k (by omega)
    omega
theorem dst_prev {m : List CellV} {k : Nat} (hk : k < m.length) : (dst m (k + 1)).2 = some (m[k].addr + 1) := by
  rw [dst_succ hk]
  rfl
theorem dst_first {m : List CellV} (h : 0 < m.length) : (dst m 1).1 = ([] : List UInt8) ++ hexs m[0].addr 4 ++ [(58 : UInt8)] ++ [(32 : UInt8)] ++ byteTxt m[0].byte := by
  rw [dst_succ h]
  simp [dst, dstep]
theorem dst_new {m : List CellV} {k : Nat} (hk : k + 1 < m.length) (h : ¬ (m[k].addr : Int) = (m[k+1].addr : Int) - 1 ∨ m[k+1].addr % 16 = 0) : (dst m (k + 1 + 1)).1 = (dst m (k + 1)).1 ++ [(10 : UInt8)] ++ hexs m[k+1].addr 4 ++ [(58 : UInt8)] ++ [(32 : UInt8)] ++ byteTxt m[k+1].byte := by
  rw [dst_succ hk]
  have hp := dst_prev (show k < m.length by omega)
  unfold dstep
  have hc : (dst m (k + 1)).2 ≠ some m[k+1].addr ∨ m[k+1].addr % 16 = 0 := by
    rcases h with h | h
    · left
      rw [hp]
      intro e
      injection e with e
      omega
    · exact .inr h
  rw [if_pos hc, if_pos ⟨by rw [hp]; simp, hc⟩]
  simp
theorem dst_more {m : List CellV} {k : Nat} (hk : k + 1 < m.length) (h : (m[k].addr : Int) = (m[k+1].addr : Int) - 1) (h2 : ¬ m[k+1].addr % 16 = 0) : (dst m (k + 1 + 1)).1 = (dst m (k + 1)).1 ++ [32] ++ byteTxt m[k+1].byte := by
  rw [dst_succ hk]
  have hp := dst_prev (show k < m.length by omega)
  unfold dstep
  have hc : ¬ ((dst m (k + 1)).2 ≠ some m[k+1].addr ∨ m[k+1].addr % 16 = 0) := by
    rintro (h | h)
    · apply h
      rw [hp, show m[k].addr + 1 = m[k+1].addr by omega]
    · exact h2 h
  rw [if_neg hc, if_neg fun h => hc h.2]
  simp
theorem dst_end (m : List CellV) : dump02 m = if (dst m m.length).1 = [] then [] else (dst m m.length).1 ++ [10] := by
  unfold dump02 dst
  rw [List.take_length]
theorem dst_ne {m : List CellV} {k : Nat} (hk : k < m.length) : (dst m (k + 1)).1 ≠ [] := by
  rw [dst_succ hk]
  unfold dstep
  dsimp only
  simp
set_option maxHeartbeats 2000000 in
set_option maxRecDepth 100000 in
theorem Dump02_any (p : Blocks) (v : Value) (m : List CellV) (w : World) (h : SlR cellR w p v m) (hm : m.length ≤ 100000) (hA : ∀ c ∈ m, c.addr ≤ 65535) :
    Calls Tryd.prog 16 #[v] w fun e w' => e = .returned (.string ⟨(dump02 m).toArray⟩) ∧ w = w' := by
  obtain ⟨a, c, rfl, _, _, g⟩ := h.cel
  have G := Lib.hid g
  have hm1 : (m.length : Int) ≤ 100000 := by omega
  have HM := Lib.hid hm
  have HA := Lib.hid hA
  have HE := Lib.hid (dst_end m)
  clear h g hA
  go_enter Tryd.func16, Tryd.ntmps16
  go_wp2
  go_loop [3, 4] (fun x i => ∃ (k : Nat) (s : ByteArray), k ≤ m.length ∧ x = .string s ∧ i = .int .i64 k ∧ s.data.toList = (dst m k).1) (fun _ i => m.length - (intOf i).toNat)
  case atStart => exact ⟨0, ⟨#[]⟩, Nat.zero_le _, rfl, rfl, rfl⟩
  case round =>
    obtain ⟨k, s, hk, rfl, rfl, hs⟩ := hrel
    have HS := Lib.hid hs
    have hsz : s.size ≤ 1000000 := by
      have := dst_len m k hk
      rw [← hs] at this
      have e : s.data.toList.length = s.size := by simp
      omega
    by_cases hlt : k < m.length
    · obtain ⟨b1, o1, rfl, _, d1, d2⟩ := G.out k m[k] (List.getElem?_eq_getElem hlt)
      have hx0 : m[k].addr ≤ 65535 := HA.out _ (List.getElem_mem hlt)
      have HH4 := Lib.hid (fun W => hex1_4 m[k].addr hx0 W)
      have HH2 := Lib.hid (fun W => hex1_2 m[k].byte W)
      have hz4 : (⟨(hexs m[k].addr 4).toArray⟩ : ByteArray).size ≤ 10 := by show (hexs _ 4).toArray.size ≤ 10; simp [hexs_len]
      have hz2 : (⟨(byteTxt m[k].byte).toArray⟩ : ByteArray).size ≤ 10 := by show (byteTxt _).toArray.size ≤ 10; simp [byteTxt_len]
      have hx1 : (m[k].addr : Int) ≤ 65535 := by omega
      have hx2 : (0 : Int) ≤ (m[k].addr : Int) := by omega
      have hby := m[k].byte.toNat_lt
      cases k with
      | zero =>
        have HF := Lib.hid (dst_first hlt)
        generalize m[0].addr = x at *
        simp only [Nat.zero_mul, Nat.add_zero] at d1 d2
        generalize m[0].byte = y at *
        have hh : s.data.toList = [] := HS.out
        obtain rfl := ba_of hh
        have HR : Hid ((⟨#[]⟩ ++ ⟨(hexs x 4).toArray⟩ ++ ⟨#[58]⟩ ++ ⟨#[32]⟩ ++ ⟨(byteTxt y).toArray⟩ : ByteArray).data.toList = (dst m 1).1) := by
          show _ = _
          rw [HF.out, ba_app, ba_app, ba_app, ba_app]
        clear HF hh hs
        generalize (⟨(hexs x 4).toArray⟩ : ByteArray) = s4 at *
        generalize (⟨(byteTxt y).toArray⟩ : ByteArray) = s2 at *
        go_wp2_with (first
          | (go_at_call 48; with_reducible refine (HH4.out _).mono ?_; rintro e w' ⟨rfl, rfl⟩)
          | (go_at_call 48; with_reducible refine (HH2.out _).mono ?_; rintro e w' ⟨rfl, rfl⟩))
        go_round
        case rel => exact ⟨1, _, by omega, rfl, by go_num, HR.out⟩
        case measure => simp [intOf]; omega
      | succ j =>
        obtain ⟨b2, o2, e2, _, f1, _⟩ := G.out j m[j] (List.getElem?_eq_getElem (by omega))
        obtain ⟨rfl, rfl⟩ : b1 = b2 ∧ o1 = o2 := by injection e2 with e2; injection e2 with h1 h2; exact ⟨h1, h2⟩
        have hz0 : m[j].addr ≤ 65535 := HA.out _ (List.getElem_mem (by omega))
        have HH0 := Lib.hid hs
        clear e2
        rw [show ((j + 1 : Nat) : Int) = (j : Int) + 1 by omega]
        by_cases hn : (m[j].addr : Int) = (m[j+1].addr : Int) - 1
        · have hd1 : (m[j].addr : Int) = (m[j+1].addr : Int) - 1 := hn
          have hd0 : ((j : Int) + 1 == 0) = false := by rw [beq_eq_false_iff_ne]; omega
          by_cases h16 : m[j+1].addr % 16 = 0
          · have hd2 : ((m[j+1].addr : Int) % 16 == 0) = true := by simp; omega
            have HF := Lib.hid (dst_new hlt (.inr h16))
            clear hn h16
            clear hs HH0
            generalize m[j+1].addr = x at *
            generalize m[j].addr = z at *
            generalize m[j+1].byte = y at *
            have HR : Hid ((s ++ ⟨#[10]⟩ ++ ⟨(hexs x 4).toArray⟩ ++ ⟨#[58]⟩ ++ ⟨#[32]⟩ ++ ⟨(byteTxt y).toArray⟩ : ByteArray).data.toList = (dst m (j + 1 + 1)).1) := by
              show _ = _
              rw [HF.out, ba_app, ba_app, ba_app, ba_app, ba_app, HS.out]
            clear HF
            generalize (⟨(hexs x 4).toArray⟩ : ByteArray) = s4 at *
            generalize (⟨(byteTxt y).toArray⟩ : ByteArray) = s2 at *
            go_wp2_with (first
              | (go_at_call 48; with_reducible refine (HH4.out _).mono ?_; rintro e w' ⟨rfl, rfl⟩)
              | (go_at_call 48; with_reducible refine (HH2.out _).mono ?_; rintro e w' ⟨rfl, rfl⟩))
            go_round
            case rel => exact ⟨j + 1 + 1, _, by omega, rfl, by go_num, HR.out⟩
            case measure => simp [intOf]; omega
          · have hd2 : ((m[j+1].addr : Int) % 16 == 0) = false := by rw [beq_eq_false_iff_ne]; omega
            have HF := Lib.hid (dst_more hlt hn h16)
            clear hn h16
            clear hs HH0
            generalize m[j+1].addr = x at *
            generalize m[j].addr = z at *
            generalize m[j+1].byte = y at *
            have HR : Hid ((s ++ ⟨#[32]⟩ ++ ⟨(byteTxt y).toArray⟩ : ByteArray).data.toList = (dst m (j + 1 + 1)).1) := by
              show _ = _
              rw [HF.out, ba_app, ba_app, HS.out]
            clear HF
            generalize (⟨(hexs x 4).toArray⟩ : ByteArray) = s4 at *
            generalize (⟨(byteTxt y).toArray⟩ : ByteArray) = s2 at *
            go_wp2_with (first
              | (go_at_call 48; with_reducible refine (HH4.out _).mono ?_; rintro e w' ⟨rfl, rfl⟩)
              | (go_at_call 48; with_reducible refine (HH2.out _).mono ?_; rintro e w' ⟨rfl, rfl⟩))
            go_round
            case rel => exact ⟨j + 1 + 1, _, by omega, rfl, by go_num, HR.out⟩
            case measure => simp [intOf]; omega
        · have hd1 : ¬ (m[j].addr : Int) = (m[j+1].addr : Int) - 1 := hn
          have hd0 : ((j : Int) + 1 == 0) = false := by rw [beq_eq_false_iff_ne]; omega
          have HF := Lib.hid (dst_new hlt (.inl hn))
          clear hn
          clear hs HH0
          generalize m[j+1].addr = x at *
          generalize m[j].addr = z at *
          generalize m[j+1].byte = y at *
          have HR : Hid ((s ++ ⟨#[10]⟩ ++ ⟨(hexs x 4).toArray⟩ ++ ⟨#[58]⟩ ++ ⟨#[32]⟩ ++ ⟨(byteTxt y).toArray⟩ : ByteArray).data.toList = (dst m (j + 1 + 1)).1) := by
            show _ = _
            rw [HF.out, ba_app, ba_app, ba_app, ba_app, ba_app, HS.out]
          clear HF
          generalize (⟨(hexs x 4).toArray⟩ : ByteArray) = s4 at *
          generalize (⟨(byteTxt y).toArray⟩ : ByteArray) = s2 at *
          go_wp2_with (first
            | (go_at_call 48; with_reducible refine (HH4.out _).mono ?_; rintro e w' ⟨rfl, rfl⟩)
            | (go_at_call 48; with_reducible refine (HH2.out _).mono ?_; rintro e w' ⟨rfl, rfl⟩))
          go_round
          case rel => exact ⟨j + 1 + 1, _, by omega, rfl, by go_num, HR.out⟩
          case measure => simp [intOf]; omega
    · obtain rfl : k = m.length := by omega
      have HS2 := HS.out
      by_cases h0 : (dst m m.length).1 = []
      · rw [h0] at HS2
        obtain rfl := ba_of HS2
        have HF : Hid (dump02 m = []) := by show _ = _; rw [HE.out, if_pos h0]
        clear HS2 h0 hs
        go_wp2
        go_ret
        exact ⟨ret_str (by rw [HF.out]), rfl⟩
      · have HF : Hid ((s ++ ⟨#[10]⟩ : ByteArray) = ⟨(dump02 m).toArray⟩) := by
          show _ = _
          apply ba_of
          rw [ba_app, HS2, HE.out, if_neg h0]
        have hne : s.toList.isEmpty = false := by
          rw [ByteArray.toList_eq, HS2]
          simpa using h0
        clear HS2 h0 hs
        go_wp2
        go_ret
        exact ⟨ret_str (by rw [HF.out]), rfl⟩
end Go.Proofs.YtcfjcoockklkeaaDoor
