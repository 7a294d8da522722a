/-
  Texts merged: Hex1 Hex2 Hex3 Low Sum3 Right Find P4a P4b P4c P4d P4e P4f P5a P5b 
-/
import Derived.Test.YtcfjcoockklkeaaGreatDoorM1
/-
  breadboardref01.Hex. Conditions: none.
-/
namespace Go.Proofs.YtcfjcoockklkeaaGreatDoor
open Go.RowKit

def digs : List UInt8 := [48, 49, 50, 51, 52, 53, 54, 55, 56, 57, 65, 66, 67, 68, 69, 70]
/-- the last k digits of n -/
def hexs (n : Nat) : Nat → List UInt8
  | 0 => []
  | k + 1 => hexs (n / 16) k ++ [digs.getD (n % 16) 0]
theorem hexs_len : ∀ (k n : Nat), (hexs n k).length = k
  | 0, _ => rfl
  | k + 1, n => by rw [hexs, List.length_append, hexs_len k]; rfl
theorem hexs_step (m j : Nat) (l : List UInt8) : hexs m (j + 1) ++ l = hexs (m / 16) j ++ (digs.getD (m % 16) 0 :: l) := by
  rw [hexs, List.append_assoc]; rfl

theorem i64_and15 (m : Nat) : bits .and .i64 (m : Int) 15 = ((m % 16 : Nat) : Int) := by
  have h15 : (BitVec.ofInt 64 15).toNat = 2 ^ 4 - 1 := by decide
  have key : (BitVec.ofInt 64 (m : Int) &&& BitVec.ofInt 64 15).toNat = ((m : Int) % ((2 ^ 64 : Nat) : Int)).toNat % 2 ^ 4 := by
    rw [BitVec.toNat_and, BitVec.toNat_ofInt, h15, Nat.and_two_pow_sub_one_eq_mod]
  show IntKind.i64.wrap ((BitVec.ofInt 64 (m : Int) &&& BitVec.ofInt 64 15).toNat : Nat) = ((m % 16 : Nat) : Int)
  rw [key, IntKind.wrap_i64]
  omega
def digB (d : Nat) : ByteArray := ⟨#[digs.getD d 0]⟩
def digS : ByteArray := ⟨#[48, 49, 50, 51, 52, 53, 54, 55, 56, 57, 65, 66, 67, 68, 69, 70]⟩
theorem dig_cut (d : Nat) (hd : d < 16) : digS.extract d (d + 1) = digB d := by
  obtain h | h | h | h | h | h | h | h | h | h | h | h | h | h | h | h : d = 0 ∨ d = 1 ∨ d = 2 ∨ d = 3 ∨ d = 4 ∨ d = 5 ∨ d = 6 ∨ d = 7 ∨ d = 8 ∨ d = 9 ∨ d = 10 ∨ d = 11 ∨ d = 12 ∨ d = 13 ∨ d = 14 ∨ d = 15 := by omega
  all_goals subst h; rfl
theorem run_dig (d : Nat) (hd : d < 16) (w : World) : (Instr.sliceAt 9 (.string ⟨#[48, 49, 50, 51, 52, 53, 54, 55, 56, 57, 65, 66, 67, 68, 69, 70]⟩) (some (.int .i64 (d : Int))) (some (.int .i64 ((d : Int) + 1))) none).run Tryz.prog w = .ok (.string (digB d)) w := by
  have hu : Tryz.prog.underlying 9 = some .string := by kernel_rfl
  rw [run_sliceAt_string _ _ _ _ _ _ hu, run_slice_string_if _ _ _ _ _ _ _ hu, if_pos ⟨by omega, by show (d : Int) + 1 ≤ 16; omega⟩, if_pos ⟨by omega, by omega⟩]
  have e : ((d : Int) + 1).toNat = d + 1 := by omega
  rw [e, Int.toNat_natCast, ← dig_cut d hd]
  rfl

set_option maxRecDepth 100000 in
set_option maxHeartbeats 2000000 in
theorem Hex01_any (n k : Nat) (w : World) (hn : n ≤ 1000000) (hk : k ≤ 100) :
    Calls Tryz.prog 87 #[.int .i64 n, .int .i64 k] w fun e w' => (∃ s : ByteArray, e = .returned (.string s) ∧ s.data.toList = hexs n k) ∧ w = w' := by
  go_enter Tryz.func87, Tryz.ntmps87
  go_wp2
  go_loop [0, 5, 6] (fun x y z => ∃ (m i : Nat) (s : ByteArray), x = .int .i64 m ∧ y = .string s ∧ z = .int .i64 i ∧ m ≤ 1000000 ∧ i ≤ k ∧ s.size = i ∧ hexs n k = hexs m (k - i) ++ s.data.toList) (fun _ _ z => k - (intOf z).toNat)
  case atStart => exact ⟨n, 0, ⟨#[]⟩, rfl, rfl, rfl, hn, Nat.zero_le _, rfl, by simp⟩
  case round =>
    obtain ⟨m, i, s, rfl, rfl, rfl, hm, hi, hs, hx⟩ := hrel
    have HX := Lib.hid hx
    have HS := Lib.hid hs
    clear hx
    by_cases hlt : i < k
    · have h0 : (0 : Int) ≤ (m : Int) := by omega
      have hm1 : (m : Int) ≤ 1000000 := by omega
      have hss : s.size ≤ 1000 := by omega
      have hi0 : (0 : Int) ≤ (i : Int) := by omega
      have him : (i : Int) ≤ 100 := by omega
      have hand := i64_and15 m
      have hd : m % 16 < 16 := Nat.mod_lt _ (by omega)
      have hrun := run_dig (m % 16) hd
      have HM := Lib.hid (hexs_step m (k - i - 1) s.data.toList)
      go_upto_region 6 with fail
      have hgen : (m : Int) % 16 = ((m % 16 : Nat) : Int) := by omega
      rw [hgen]
      clear hand hgen
      generalize m % 16 = d at *
      have hd0 : (0 : Int) ≤ (d : Int) := by omega
      have hd1 : (d : Int) ≤ 15 := by omega
      have hds : (digB d).size = 1 := rfl
      go_wp2
      refine ⟨⟨m / 16, i + 1, digB d ++ s, by go_num, rfl, by go_num, by omega, by omega, by rw [ByteArray.size_append, hds, HS.out]; omega, ?_⟩, by simp [intOf]; omega⟩
      have e := HM.out
      rw [show k - i - 1 + 1 = k - i by omega] at e
      rw [HX.out, e, show k - (i + 1) = k - i - 1 by omega, ByteArray.data_append, Array.toList_append]
      rfl
    · obtain rfl : i = k := by omega
      go_wp2
      go_ret
      exact ⟨⟨s, rfl, by rw [HX.out, Nat.sub_self]; rfl⟩, rfl⟩
end Go.Proofs.YtcfjcoockklkeaaGreatDoor

/-
  num.Hex. Conditions: none.
-/
namespace Go.Proofs.YtcfjcoockklkeaaGreatDoor
open Go.RowKit

theorem made_get (z : Value) {k j : Nat} (hj : j < k) : (madeCells #[z] k)[j]? = some z := by simp [madeCells, hj, Nat.mod_one]
set_option maxRecDepth 100000 in
theorem run_make_bytes (w : World) (k : Nat) (hk : k ≤ 1000) : ∃ w0, (Instr.makeSlice 55 (.int .i64 (k : Int)) (.int .i64 (k : Int))).run Tryz.prog w = .ok (.slice (some ⟨w.heap.size, 0, none⟩) k k) w0 ∧
    Below w.heap.size w w0 ∧ w.heap.size < w0.heap.size ∧ ByteRow w0 w.heap.size (List.replicate k 0) := by
  have hm : (Tryz.prog.info? 5).map (fun i => (i.zero, i.size, i.bytes)) = some (some (.int .u8 0), 1, 1) := by kernel_rfl
  cases hq : Tryz.prog.info? 5 with
  | none => simp [hq] at hm
  | some i =>
    simp only [hq, Option.map_some, Option.some.injEq, Prod.mk.injEq] at hm
    obtain ⟨hz, hs, hb⟩ := hm
    have e := run_makeSlice (P := Tryz.prog) w 55 5 i _ Tryz.underlying55 hq hz .i64 .i64 (k : Int) (k : Int) (by omega) (Int.le_refl _) (by rw [hs]; simp; omega) (by rw [hb]; omega) (by omega)
    rw [hs, Int.toNat_natCast, Nat.mul_one] at e
    refine ⟨_, e, (Below.refl _ _).alloc (Nat.le_refl _) _, by simp, fun j x hx => ?_, fun j _ => (Blk.new w _ _).free j⟩
    rw [List.getElem?_replicate] at hx
    have hj : j < k := by
      rcases Nat.lt_or_ge j k with h | h
      · exact h
      · rw [if_neg (by omega)] at hx; cases hx
    rw [if_pos hj] at hx
    injection hx with hx
    have hc := (Blk.new w 5 (madeCells (Value.cells (.int .u8 0)) k)).cell j
    refine hc.trans ((made_get (.int .u8 0) hj).trans ?_)
    rw [← hx]
    rfl
end Go.Proofs.YtcfjcoockklkeaaGreatDoor

/-
  num.Hex. Conditions: none.
-/
namespace Go.Proofs.YtcfjcoockklkeaaGreatDoor
open Go.RowKit

theorem dig_at (d : Nat) (hd : d < 16) (h : d < digS.size) : digS[d] = digs.getD d 0 := by
  obtain e | e | e | e | e | e | e | e | e | e | e | e | e | e | e | e : d = 0 ∨ d = 1 ∨ d = 2 ∨ d = 3 ∨ d = 4 ∨ d = 5 ∨ d = 6 ∨ d = 7 ∨ d = 8 ∨ d = 9 ∨ d = 10 ∨ d = 11 ∨ d = 12 ∨ d = 13 ∨ d = 14 ∨ d = 15 := by omega
  all_goals subst e; rfl
theorem run_idx (m : Nat) (w : World) : (Instr.index 9 (.string ⟨#[48, 49, 50, 51, 52, 53, 54, 55, 56, 57, 65, 66, 67, 68, 69, 70]⟩) (.int .i64 ((m : Int) % 16))).run Tryz.prog w = .ok (.int .u8 ((digs.getD (m % 16) 0).toNat : Nat)) w := by
  have hu : Tryz.prog.underlying 9 = some .string := by kernel_rfl
  have h1 : 0 ≤ (m : Int) % 16 ∧ (m : Int) % 16 < (digS.size : Nat) := ⟨by omega, by show (m : Int) % 16 < 16; omega⟩
  have e := run_index_string (P := Tryz.prog) w 9 digS .i64 ((m : Int) % 16) hu
  rw [dif_pos h1] at e
  have e2 : ((m : Int) % 16).toNat = m % 16 := by omega
  have e3 : digS[((m : Int) % 16).toNat]'(by show _ < 16; omega) = digs.getD (m % 16) 0 := by
    have := dig_at (m % 16) (Nat.mod_lt _ (by omega)) (by show m % 16 < 16; omega)
    rw [← this]
    congr 1
  rw [e3] at e
  exact e
theorem set_rep (c : UInt8) (t : List UInt8) : ∀ j, (List.replicate (j + 1) 0 ++ t).set j c = List.replicate j 0 ++ c :: t
  | 0 => rfl
  | j + 1 => by
    show (0 :: (List.replicate (j + 1) 0 ++ t)).set (j + 1) c = 0 :: (List.replicate j 0 ++ c :: t)
    rw [List.set_cons_succ, set_rep c t j]
set_option maxRecDepth 100000 in
set_option maxHeartbeats 2000000 in
theorem Hex_any (n k : Nat) (w : World) (hn : n ≤ 1000000) (hk : k ≤ 100) :
    Calls Tryz.prog 109 #[.int .i64 n, .int .i64 k] w fun e w' => e = .returned (.string ⟨(hexs n k).toArray⟩) ∧ Below w.heap.size w w' := by
  obtain ⟨w0, hmk, hb, hlt0, hrow⟩ := run_make_bytes w k (by omega)
  have HB := Lib.hid hb
  have HROW := Lib.hid hrow
  have HLT0 := Lib.hid hlt0
  have hk0 : (0 : Int) ≤ (k : Int) := by omega
  have hk1 : (k : Int) ≤ 100 := by omega
  have hmax : (if (0 : Int) > (k : Int) then (0 : Int) else (k : Int)) = k := by rw [if_neg (by omega)]
  clear hb hrow hlt0
  go_enter Tryz.func109, Tryz.ntmps109
  go_wp2
  go_loopw [0, 6] (fun x z wr => ∃ (m j : Nat) (ii : Int) (t : List UInt8), x = .int .i64 m ∧ z = .int .i64 ii ∧ ii = (j : Int) - 1 ∧ m ≤ 1000000 ∧ t.length + j = k ∧ hexs n k = hexs m j ++ t ∧ ByteRow wr w.heap.size (List.replicate j 0 ++ t) ∧ Below w.heap.size w wr) (fun _ z _ => (intOf z + 1).toNat)
  case atStart => exact ⟨n, k, _, [], rfl, rfl, rfl, hn, by simp, by simp, by simpa using HROW.out, HB.out⟩
  case round =>
    clear hmk
    obtain ⟨m, j, ii, t, rfl, rfl, hii, hm, hl, hx, hr, hbw⟩ := hrel
    have HX := Lib.hid hx
    have HR := Lib.hid hr
    have HBW := Lib.hid hbw
    have HLL := Lib.hid hl
    clear hx hr hbw hl
    cases j with
    | succ j =>
      obtain rfl : ii = (j : Int) := by omega
      clear hmax hii
      have h0 : (0 : Int) ≤ (m : Int) := by omega
      have hm1 : (m : Int) ≤ 1000000 := by omega
      have hj0 : (0 : Int) ≤ (j : Int) := by omega
      have hjk : (j : Int) < (k : Int) := by have := HLL.out; omega
      have hand : bits .and .i64 (m : Int) 15 = (m : Int) % 16 := (i64_and15 m).trans (by omega)
      have hidx := run_idx m
      have hf := HR.out.free j (by simp; omega)
      have hc := HR.out.cell j 0 (by rw [List.getElem?_append_left (by simp), List.getElem?_replicate, if_pos (by omega)])
      go_wp2
      rw [← List.getD_eq_getElem?_getD]
      refine ⟨⟨m / 16, j, _, digs.getD (m % 16) 0 :: t, by go_num, rfl, rfl, by omega, by have := HLL.out; simp; omega, HX.out.trans (hexs_step m j t), ?_, HBW.out.setCell (p := ⟨w.heap.size, j, none⟩) (Nat.le_refl _) _⟩, by simp [intOf]⟩
      rw [← set_rep]
      exact HR.out.set j _
    | zero =>
      obtain rfl : ii = -1 := by simpa using hii
      have hk2 := HLL.out
      rw [Nat.add_zero] at hk2
      have hx2 : hexs n k = t := HX.out
      have hstr := run_string wr w.heap.size k t HR.out
      rw [hk2, ← hx2] at hstr
      clear hii hx2 hk2
      go_wp2
      go_ret
      exact ⟨rfl, HBW.out⟩
end Go.Proofs.YtcfjcoockklkeaaGreatDoor

/-
  num.Low. Conditions: none.
-/
namespace Go.Proofs.YtcfjcoockklkeaaGreatDoor
open Go.RowKit

def lowB (n : Int) : UInt8 := UInt8.ofNat (n % 256).toNat
theorem lowB_is (n : Int) : ((lowB n).toNat : Int) = n % 256 := by
  unfold lowB
  rw [UInt8.toNat_ofNat']
  omega
theorem low_byte (n : Int) : (#[Value.int .u8 (n % 256)] : Array Value) = [Value.int .u8 ((lowB n).toNat : Int)].toArray := by rw [lowB_is]
theorem low_take {l : List Int} {xs : List UInt8} {k : Nat} {c : Int} (hx : xs = (l.take k).map lowB) (HT : l.take (k+1) = l.take k ++ [c]) : xs ++ [lowB c] = (l.take (k+1)).map lowB := by
  rw [HT, List.map_append, List.map_singleton, hx]

set_option maxRecDepth 100000 in
set_option maxHeartbeats 1000000 in
theorem Low_any (p : Blocks) (v : Value) (l : List Int) (w : World) (h : SlR intR w p v l) (hn : l.length ≤ 1000000) :
    Calls Tryz.prog 108 #[v] w fun e w' => ∃ v', e = .returned v' ∧ Own byteR w' w.heap.size 5 NoB v' (l.map lowB) ∧ Below w.heap.size w w' := by
  obtain ⟨a, c, rfl, _⟩ := h.int
  have HSL := Lib.hid h
  clear h
  go_enter Tryz.func108, Tryz.ntmps108
  go_wp2
  go_loopw [3, 8] (fun v i wr => ∃ k : Nat, k ≤ l.length ∧ i = .int .i64 k ∧ Own byteR wr w.heap.size 5 NoB v ((l.take k).map lowB) ∧ Below w.heap.size w wr) (fun _ i _ => l.length - (intOf i).toNat)
  case atStart => exact ⟨0, Nat.zero_le _, rfl, Own.nil _ _ _ _ _, Below.refl _ _⟩
  case round =>
    obtain ⟨k, hk, rfl, ho, hb⟩ := hrel
    by_cases hlt : k < l.length
    · have HT : Hid (l.take (k+1) = l.take k ++ [l[k]]) := List.take_succ_eq_append_getElem hlt
      obtain ⟨ad, cd, hv, _, _, g⟩ := (HSL.out.below hb).int
      obtain ⟨rfl, _, rfl⟩ : a = ad ∧ l.length = l.length ∧ c = cd := by injection hv with h1 h2 h3; exact ⟨h1, h2, h3⟩
      obtain ⟨b1, o1, rfl, _, hc⟩ := g k l[k] (List.getElem?_eq_getElem hlt)
      clear g hv
      have hlm : ((l.take k).map lowB).length = k := by simp; omega
      generalize hx : (l.take k).map lowB = xs at *
      have HX := Lib.hid (low_take hx.symm HT.out)
      have HLM := Lib.hid hlm
      have HO := Lib.hid ho
      have HB := Lib.hid hb
      have HN := Lib.hid hn
      obtain ⟨oa, oc, rfl⟩ := ho.form
      clear hx hlm ho HT
      generalize l[k] = y at *
      have HC1 : Hid ((xs.length + 1) * 1 ≤ 140737488355328) := by have := HLM.out; show _ ≤ _; have := HN.out; omega
      have HC2 : Hid (xs.length + 1 ≤ 9223372036854775807) := by have := HLM.out; show _ ≤ _; have := HN.out; omega
      have HC := Lib.hid (low_byte y)
      go_wp2_with (at_builtin; refine wpList_push rfl (.tmp 12) (.tmp 15) 55 rfl w.heap.size 5 1 elByte _ xs (lowB y) _ rfl rfl HO.out HC.out HC1.out HC2.out HB.out.size ?_; intro a' c' w' hp; have HP := Lib.hid hp; clear hp)
      go_roundw
      case rel => exact ⟨k + 1, by omega, by go_num, by rw [← HX.out]; exact HP.out.1, HB.out.grown HP.out.2 HB.out.size (fun j hj => (HO.out.lt j hj).1)⟩
      case measure => simp [intOf]; omega
    · have hk' : k = l.length := by omega
      subst hk'
      rw [List.take_length] at ho
      have HO := Lib.hid ho
      have HB := Lib.hid hb
      clear ho hb
      go_wp2
      go_ret
      exact ⟨_, rfl, HO.out, HB.out⟩
end Go.Proofs.YtcfjcoockklkeaaGreatDoor

/-
  breadboardref03.Sum. Conditions: none.
-/
namespace Go.Proofs.YtcfjcoockklkeaaGreatDoor
open Go.RowKit

def sumN (l : List UInt8) : Nat := l.foldl (fun n x => (n + x.toNat) % 256) 0
theorem sumN_take {l : List UInt8} {k : Nat} {c : UInt8} (HT : l.take (k+1) = l.take k ++ [c]) : sumN (l.take (k+1)) = (sumN (l.take k) + c.toNat) % 256 := by
  unfold sumN
  rw [HT, List.foldl_append]; rfl
theorem sumN_lt (l : List UInt8) : ∀ n, n < 256 → l.foldl (fun n x => (n + x.toNat) % 256) n < 256 := by
  induction l with
  | nil => exact fun n h => h
  | cons x l ih => exact fun n _ => ih _ (Nat.mod_lt _ (by omega))
def sum03 (l : List UInt8) : UInt8 := lowB ((256 - (sumN l : Int)) % 256)

set_option maxRecDepth 100000 in
set_option maxHeartbeats 1000000 in
theorem Sum03_any (p : Blocks) (v : Value) (l : List UInt8) (w : World) (h : SlR byteR w p v l) :
    Calls Tryz.prog 50 #[v] w fun e w' => e = .returned (.int .u8 ((sum03 l).toNat : Int)) ∧ w = w' := by
  obtain ⟨a, c, rfl, hc1, hc2, g⟩ := h.byte
  have G := Lib.hid g
  have hlen : (l.length : Int) ≤ 9223372036854775807 := by omega
  have HLN := Lib.hid hlen
  clear h g hc1 hc2 hlen
  go_enter Tryz.func50, Tryz.ntmps50
  go_wp2
  go_loop [3, 4] (fun x i => ∃ k m : Nat, k ≤ l.length ∧ i = .int .i64 k ∧ x = .int .i64 m ∧ m = sumN (l.take k) ∧ m < 256) (fun _ i => l.length - (intOf i).toNat)
  case atStart => exact ⟨0, 0, Nat.zero_le _, rfl, rfl, rfl, by omega⟩
  case round =>
    obtain ⟨k, m, hk, rfl, rfl, hm, hm2⟩ := hrel
    have HM := Lib.hid hm
    clear hm
    by_cases hlt : k < l.length
    · have HT : Hid (l.take (k+1) = l.take k ++ [l[k]]) := List.take_succ_eq_append_getElem hlt
      obtain ⟨b1, o1, rfl, _, hc⟩ := G.out k l[k] (List.getElem?_eq_getElem hlt)
      have HS := Lib.hid (sumN_take HT.out)
      clear HT
      have hy : l[k].toNat < 256 := l[k].toNat_lt
      generalize l[k] = y at *
      have hk9 := HLN.out
      go_wp2
      go_round
      case rel => exact ⟨k + 1, (m + y.toNat) % 256, by omega, by go_num, by go_num, by rw [HS.out, HM.out], Nat.mod_lt _ (by omega)⟩
      case measure => simp [intOf]; omega
    · obtain rfl : k = l.length := by omega
      rw [List.take_length] at HM
      have hfin : ((sum03 l).toNat : Int) = (256 - (m : Int)) % 256 := by
        unfold sum03
        rw [lowB_is, HM.out]
        omega
      have HF := Lib.hid hfin
      clear hfin
      go_wp2
      go_ret
      exact ⟨ret_int (by rw [HF.out]; omega), rfl⟩
end Go.Proofs.YtcfjcoockklkeaaGreatDoor

/-
  breadboardref03.Right. Conditions: none.
-/
namespace Go.Proofs.YtcfjcoockklkeaaGreatDoor
open Go.RowKit

def rightB (t a : Int) (n : Nat) : Bool := decide (0 ≤ t) && decide (t ≤ 255) && decide (0 ≤ a) && decide (a ≤ 65535) && decide (n ≤ 255)
set_option maxRecDepth 100000 in
set_option maxHeartbeats 4000000 in
theorem Right03_any (t a : Int) (sa : Option Addr) (n c : Nat) (w : World) :
    Calls Tryz.prog 85 #[.agg #[.int .i64 t, .int .i64 a, .slice sa n c]] w fun e w' => e = .returned (.bool (rightB t a n)) ∧ Below w.heap.size w w' := by
  have HR : Hid (rightB t a n = (decide (0 ≤ t) && decide (t ≤ 255) && decide (0 ≤ a) && decide (a ≤ 65535) && decide ((n : Int) ≤ 255))) := by
    show _ = _
    unfold rightB
    congr 1
    rw [Bool.eq_iff_iff]; simp; omega
  cases h1 : decide (0 ≤ t) <;> cases h2 : decide (t ≤ 255) <;> cases h3 : decide (0 ≤ a) <;> cases h4 : decide (a ≤ 65535) <;> cases h5 : decide ((n : Int) ≤ 255)
  all_goals
    rw [h1, h2, h3, h4, h5] at HR
    go_enter Tryz.func85, Tryz.ntmps85
    go_wp2
    go_ret
    exact ⟨ret_bool HR.out.symm, (Below.refl _ _).alloc (Nat.le_refl _) _⟩
end Go.Proofs.YtcfjcoockklkeaaGreatDoor

/-
  breadboardref02.Find. Conditions: none.
-/
namespace Go.Proofs.YtcfjcoockklkeaaGreatDoor
open Go.RowKit

structure CellV where
  addr : Nat
  byte : UInt8
def cellR : Rep CellV := Rep.flat 2 (fun x => [.int .i64 x.addr, .int .u8 x.byte.toNat]) (fun _ => rfl) (fun _ u hu => by simp at hu; rcases hu with rfl | rfl <;> rfl)
theorem cellR_size : cellR.size = 2 := rfl
theorem SlR.cel {w : World} {p : Blocks} {v : Value} {l : List CellV} (h : SlR cellR w p v l) : ∃ a cap, v = .slice a l.length cap ∧ l.length ≤ cap ∧ cap ≤ 9223372036854775807 ∧
    ∀ i x, l[i]? = some x → ∃ b o, a = some ⟨b, o, none⟩ ∧ p b ∧ w.cell? ⟨b, o + i * 2, none⟩ = some (.int .i64 x.addr) ∧ w.cell? ⟨b, o + i * 2 + 1, none⟩ = some (.int .u8 x.byte.toNat) := by
  obtain ⟨a, cap, e, h1, h2, h3⟩ := h
  refine ⟨a, cap, e, h1, by simpa [maxLen] using h2, fun i x hx => ?_⟩
  obtain ⟨b, o, cs, ea, hb, hbs, hc, hr⟩ := h3 i x hx
  have hr : cs = [.int .i64 x.addr, .int .u8 x.byte.toNat] := hr
  subst hr
  exact ⟨b, o, ea, hb, hc 0 _ rfl, hc 1 _ rfl⟩
def find02 (a : Int) : List CellV → Nat
  | [] => 0
  | x :: r => if (x.addr : Int) < a then find02 a r + 1 else 0
theorem find02_yes {a : Int} {l : List CellV} {k : Nat} (hk : k < l.length) (h : (l[k].addr : Int) < a) : k + find02 a (l.drop k) = k + 1 + find02 a (l.drop (k + 1)) := by
  rw [List.drop_eq_getElem_cons hk, find02, if_pos h]; omega
theorem find02_no {a : Int} {l : List CellV} {k : Nat} (hk : k < l.length) (h : ¬ (l[k].addr : Int) < a) : k + find02 a (l.drop k) = k := by
  rw [List.drop_eq_getElem_cons hk, find02, if_neg h]; rfl

set_option maxRecDepth 100000 in
set_option maxHeartbeats 1000000 in
theorem Find_any (p : Blocks) (v : Value) (l : List CellV) (ad : Int) (w : World) (h : SlR cellR w p v l) :
    Calls Tryz.prog 58 #[v, .int .i64 ad] w fun e w' => e = .returned (.int .i64 (find02 ad l : Nat)) ∧ w = w' := by
  obtain ⟨a, c, rfl, hc1, hc2, g⟩ := h.cel
  have G := Lib.hid g
  have hlen : (l.length : Int) ≤ 9223372036854775807 := by omega
  have HLN := Lib.hid hlen
  clear h g hc1 hc2 hlen
  go_enter Tryz.func58, Tryz.ntmps58
  go_wp2
  go_loop [5] (fun i => ∃ k : Nat, k ≤ l.length ∧ i = .int .i64 k ∧ find02 ad l = k + find02 ad (l.drop k)) (fun i => l.length - (intOf i).toNat)
  case atStart => exact ⟨0, Nat.zero_le _, rfl, by simp⟩
  case round =>
    obtain ⟨k, hk, rfl, hx⟩ := hrel
    have HX := Lib.hid hx
    clear hx
    by_cases hlt : k < l.length
    · obtain ⟨b1, o1, rfl, _, d1, _⟩ := G.out k l[k] (List.getElem?_eq_getElem hlt)
      have HY := Lib.hid (find02_yes (a := ad) hlt)
      have HNO := Lib.hid (find02_no (a := ad) hlt)
      generalize l[k].addr = y at *
      have hk9 := HLN.out
      by_cases hy : (y : Int) < ad
      · have HE := Lib.hid (HY.out hy)
        go_wp2
        go_round
        case rel => exact ⟨k + 1, by omega, by go_num, HX.out.trans HE.out⟩
        case measure => simp [intOf]; omega
      · have HE := Lib.hid (HX.out.trans (HNO.out hy))
        go_wp2
        go_ret
        exact ⟨ret_int (by rw [HE.out]), rfl⟩
    · obtain rfl : k = l.length := by omega
      have HE : Hid (find02 ad l = l.length) := by
        have e := HX.out
        rw [List.drop_length] at e
        exact e
      go_wp2
      go_ret
      exact ⟨ret_int (by rw [HE.out]), rfl⟩
end Go.Proofs.YtcfjcoockklkeaaGreatDoor

/-
  PLAIN: images as lists of cells and as lists of runs. Conditions: none.
-/
namespace Go.Proofs.YtcfjcoockklkeaaGreatDoor

/-- the cells of bytes laid from an address on -/
def cellsF : Nat → List UInt8 → List CellV
  | _, [] => []
  | a, b :: l => ⟨a, b⟩ :: cellsF (a + 1) l
def cellsR (R : List (Nat × List UInt8)) : List CellV := R.flatMap fun r => cellsF r.1 r.2
/-- the cells of n addresses from a on -/
def segC (d : Nat → Bool) (v : Nat → UInt8) : Nat → Nat → List CellV
  | _, 0 => []
  | a, n + 1 => (if d a then [⟨a, v a⟩] else []) ++ segC d v (a + 1) n
def cellsOf (d : Nat → Bool) (v : Nat → UInt8) : List CellV := segC d v 0 65536
theorem segC_split (d : Nat → Bool) (v : Nat → UInt8) (n : Nat) : ∀ m a, segC d v a (m + n) = segC d v a m ++ segC d v (a + m) n
  | 0, a => by rw [Nat.zero_add]; rfl
  | m + 1, a => by
    rw [show m + 1 + n = (m + n) + 1 by omega, segC, segC, segC_split d v n m (a + 1), List.append_assoc, show a + 1 + m = a + (m + 1) by omega]
theorem segC_congr {d d' : Nat → Bool} {v v' : Nat → UInt8} : ∀ n a, (∀ x, a ≤ x → x < a + n → d x = d' x ∧ (d x = true → v x = v' x)) → segC d v a n = segC d' v' a n
  | 0, _, _ => rfl
  | n + 1, a, h => by
    obtain ⟨h1, h2⟩ := h a (Nat.le_refl _) (by omega)
    rw [segC, segC, segC_congr n (a + 1) (fun x hx hx2 => h x (by omega) (by omega)), ← h1]
    cases e : d a with
    | false => rfl
    | true => rw [h2 e]
theorem segC_none {d : Nat → Bool} {v : Nat → UInt8} : ∀ n a, (∀ x, a ≤ x → x < a + n → d x = false) → segC d v a n = []
  | 0, _, _ => rfl
  | n + 1, a, h => by
    rw [segC, segC_none n (a + 1) (fun x hx hx2 => h x (by omega) (by omega)), h a (Nat.le_refl _) (by omega)]; rfl
theorem bytesOf_succ (v : Nat → UInt8) (a n : Nat) : bytesOf v a (n + 1) = v a :: bytesOf v (a + 1) n := by
  unfold bytesOf
  rw [List.range_succ_eq_map, List.map_cons, List.map_map]
  congr 1
  apply List.map_congr_left
  intro i _
  show v (a + (i + 1)) = _
  rw [show a + (i + 1) = a + 1 + i by omega]
theorem segC_full {d : Nat → Bool} {v : Nat → UInt8} : ∀ n a, (∀ x, a ≤ x → x < a + n → d x = true) → segC d v a n = cellsF a (bytesOf v a n)
  | 0, _, _ => rfl
  | n + 1, a, h => by
    rw [segC, segC_full n (a + 1) (fun x hx hx2 => h x (by omega) (by omega)), h a (Nat.le_refl _) (by omega), bytesOf_succ]; rfl
theorem segC_mem {d : Nat → Bool} {v : Nat → UInt8} {c : CellV} : ∀ n a, c ∈ segC d v a n → a ≤ c.addr ∧ c.addr < a + n ∧ d c.addr = true ∧ c.byte = v c.addr
  | 0, _, h => by simp [segC] at h
  | n + 1, a, h => by
    rw [segC, List.mem_append] at h
    rcases h with h | h
    · cases e : d a with
      | false => simp [e] at h
      | true =>
        simp [e] at h
        subst h
        exact ⟨Nat.le_refl _, by show a < a + (n + 1); omega, e, rfl⟩
    · obtain ⟨h1, h2, h3⟩ := segC_mem n (a + 1) h
      exact ⟨by omega, by omega, h3⟩
theorem find02_app {a : Int} {l2 : List CellV} (h2 : ∀ c ∈ l2, ¬ (c.addr : Int) < a) : ∀ l1 : List CellV, (∀ c ∈ l1, (c.addr : Int) < a) → find02 a (l1 ++ l2) = l1.length
  | [], _ => by
    cases l2 with
    | nil => rfl
    | cons c r => show (if (c.addr : Int) < a then _ else 0) = 0; rw [if_neg (h2 c (by simp))]
  | c :: l1, h1 => by
    show (if (c.addr : Int) < a then _ else 0) = _
    rw [if_pos (h1 c (by simp))]
    exact congrArg (· + 1) (find02_app h2 l1 (fun x hx => h1 x (by simp [hx])))
/-- what the reference's Put answers -/
def put02 (m : List CellV) (a : Int) (l : List UInt8) : List CellV × Nat :=
  if a < 0 ∨ 65535 < a then (m, 2) else if (65536 : Int) - a < l.length then (m, 10) else if l = [] then (m, 0)
  else if ∃ c, m[find02 a m]? = some c ∧ (c.addr : Int) < a + l.length then (m, 4)
  else (m.take (find02 a m) ++ cellsF a.toNat l ++ m.drop (find02 a m), 0)
def imgPut (d : Nat → Bool) (v : Nat → UInt8) (a : Int) (l : List UInt8) : (Nat → Bool) × (Nat → UInt8) :=
  if putCode d a l.length = 0 then (span d a.toNat l.length, over v a.toNat l) else (d, v)
theorem nextS_found {d : Nat → Bool} {a x : Nat} (h1 : a ≤ x) (h2 : x < 65536) (h3 : d x = true) : nextS d true a ≤ x := by
  obtain ⟨g1, g2, g3, g4⟩ := nextS_spec d true a (by omega)
  rcases Nat.lt_or_ge x (nextS d true a) with h | h
  · have := g3 x h1 h
    rw [h3] at this; cases this
  · exact h
theorem segC_head {d : Nat → Bool} {v : Nat → UInt8} {a : Nat} (ha : a ≤ 65536) : (segC d v a (65536 - a))[0]? = if nextS d true a < 65536 then some ⟨nextS d true a, v (nextS d true a)⟩ else none := by
  obtain ⟨g1, g2, g3, g4⟩ := nextS_spec d true a ha
  generalize nextS d true a = t at *
  rw [show 65536 - a = (t - a) + (65536 - t) by omega, segC_split, segC_none (t - a) a (fun x h1 h2 => by have := g3 x h1 (by omega); simpa using this), List.nil_append, show a + (t - a) = t by omega]
  by_cases h : t < 65536
  · rw [if_pos h, show 65536 - t = (65536 - t - 1) + 1 by omega, segC]
    have := g4 h
    simp at this
    rw [this]; rfl
  · rw [if_neg h, show 65536 - t = 0 by omega]; rfl
theorem over_out {v : Nat → UInt8} {a x : Nat} {l : List UInt8} (h : x < a ∨ a + l.length ≤ x) : over v a l x = v x := by
  unfold over
  split
  · rw [List.getD_eq_getElem?_getD, List.getElem?_eq_none (by omega)]; rfl
  · rfl
theorem bytesOf_over (v : Nat → UInt8) (a : Nat) (l : List UInt8) : bytesOf (over v a l) a l.length = l := by
  unfold bytesOf
  apply List.ext_getElem
  · simp
  · intro i h1 h2
    simp [over, List.getD_eq_getElem?_getD, h2]
theorem put_match (d : Nat → Bool) (v : Nat → UInt8) (a : Int) (l : List UInt8) : put02 (cellsOf d v) a l = (cellsOf (imgPut d v a l).1 (imgPut d v a l).2, putCode d a l.length) := by
  unfold put02
  by_cases h1 : a < 0 ∨ 65535 < a
  · have e : putCode d a l.length = 2 := putCode_out (by omega)
    rw [if_pos h1, imgPut, e, if_neg (by decide)]
  · rw [if_neg h1]
    obtain ⟨a, rfl⟩ : ∃ m : Nat, a = m := ⟨a.toNat, by omega⟩
    have hA : (putCode d (a : Int) l.length) = if 65536 < a + l.length then 10 else if nextS d true a < a + l.length then 4 else 0 := by
      unfold putCode
      rw [if_neg (by omega)]
      simp only [Int.toNat_natCast]
      by_cases h1 : 65536 < a + l.length
      · rw [if_pos h1, if_pos (by omega)]
      · rw [if_neg h1, if_neg (by omega)]
    by_cases h2 : (65536 : Int) - a < l.length
    · have e : putCode d (a : Int) l.length = 10 := by rw [hA, if_pos (by omega)]
      rw [if_pos h2, imgPut, e, if_neg (by decide)]
    · rw [if_neg h2]
      by_cases h3 : l = []
      · subst h3
        obtain ⟨g1, _⟩ := nextS_spec d true a (by omega)
        have e0 : over v a [] = v := by funext x; exact over_out (by simp; omega)
        have e : putCode d (a : Int) ([] : List UInt8).length = 0 := by rw [hA, if_neg (by simp; omega), if_neg (by simp; omega)]
        rw [if_pos rfl, imgPut, e, if_pos rfl]
        show (_, _) = (cellsOf (span d a 0) (over v a []), 0)
        rw [span_zero, e0]
      · rw [if_neg h3]
        have hsp : cellsOf d v = segC d v 0 a ++ segC d v a (65536 - a) := by
          unfold cellsOf
          rw [show 65536 = a + (65536 - a) by omega, segC_split, Nat.zero_add, show a + (65536 - a) - a = 65536 - a by omega]
        have hf : find02 (a : Int) (cellsOf d v) = (segC d v 0 a).length := by
          rw [hsp]
          exact find02_app (fun c hc => by have := (segC_mem _ _ hc).1; omega) _ (fun c hc => by have := (segC_mem _ _ hc).2.1; omega)
        have hl : 0 < l.length := List.length_pos_iff.2 h3
        have hg : (cellsOf d v)[find02 (a : Int) (cellsOf d v)]? = (segC d v a (65536 - a))[0]? := by
          rw [hf, hsp, List.getElem?_append_right (Nat.le_refl _), Nat.sub_self]
        rw [hg, segC_head (by omega)]
        obtain ⟨g1, g2, g3, g4⟩ := nextS_spec d true a (by omega)
        by_cases h4 : nextS d true a < a + l.length
        · have hlt : nextS d true a < 65536 := by omega
          have e : putCode d (a : Int) l.length = 4 := by rw [hA, if_neg (by omega), if_pos h4]
          rw [if_pos ⟨_, if_pos hlt, by show ((nextS d true a : Nat) : Int) < _; omega⟩, imgPut, e, if_neg (by decide)]
        · have e : putCode d (a : Int) l.length = 0 := by rw [hA, if_neg (by omega), if_neg h4]
          rw [if_neg (by
            rintro ⟨c, hc, hlt⟩
            split at hc
            · injection hc with hc; subst hc; exact h4 (by have : ((nextS d true a : Nat) : Int) < _ := hlt; omega)
            · cases hc), imgPut, e, if_pos rfl]
          congr 1
          rw [hf, hsp, List.take_left, List.drop_left]
          simp only [Int.toNat_natCast]
          generalize hdk : l.length = k at *
          have hno : ∀ x, a ≤ x → x < a + k → d x = false := fun x h1 h2 => by have := g3 x h1 (by omega); simpa using this
          unfold cellsOf
          rw [show segC (span d a k) (over v a l) 0 65536 = segC (span d a k) (over v a l) 0 (a + (k + (65536 - a - k))) by congr 1; omega, segC_split, segC_split, Nat.zero_add]
          rw [show segC d v a (65536 - a) = segC d v a (k + (65536 - a - k)) by congr 1; omega, segC_split, segC_none k a hno, List.nil_append]
          rw [segC_full k a (fun x h1 h2 => by unfold span; simp; omega), ← hdk, bytesOf_over, List.append_assoc]
          congr 1
          · exact segC_congr _ _ (fun x h1 h2 => ⟨by unfold span; simp; omega, fun _ => (over_out (by omega)).symm⟩)
          · congr 1
            exact segC_congr _ _ (fun x h1 h2 => ⟨by unfold span; simp; omega, fun _ => (over_out (by omega)).symm⟩)
end Go.Proofs.YtcfjcoockklkeaaGreatDoor

/-
  PLAIN: the longest ranges of a list of cells. Conditions: none.
-/
namespace Go.Proofs.YtcfjcoockklkeaaGreatDoor

theorem runsN_cells {d : Nat → Bool} {v : Nat → UInt8} : ∀ g f, f ≤ 65536 → 65536 < g + f → (f < 65536 → d f = true) → cellsR (runsN d v g f) = segC d v f (65536 - f)
  | 0, f, h1, h2, _ => by omega
  | g + 1, f, h1, h2, h3 => by
    rw [runsN]
    by_cases h : f < 65536
    · rw [if_pos h]
      obtain ⟨p1, p2⟩ := next_past h (h3 h)
      obtain ⟨g1, g2, g3, g4⟩ := nextS_spec d true (nextS d false f) p2
      obtain ⟨k1, k2, k3, _⟩ := nextS_spec d false f h1
      have ih := runsN_cells (d := d) (v := v) g (nextS d true (nextS d false f)) g2 (by omega) (fun hx => by simpa using g4 hx)
      show cellsF f _ ++ cellsR _ = _
      rw [ih]
      generalize nextS d true (nextS d false f) = u at *
      generalize nextS d false f = t at *
      rw [show 65536 - f = (t - f) + ((u - t) + (65536 - u)) by omega, segC_split, segC_split, show f + (t - f) = t by omega, show t + (u - t) = u by omega]
      rw [segC_full (t - f) f (fun x hx1 hx2 => by have := k3 x hx1 (by omega); simpa using this), segC_none (u - t) t (fun x hx1 hx2 => by have := g3 x hx1 (by omega); simpa using this)]
      rfl
    · rw [if_neg h, show 65536 - f = 0 by omega]; rfl
theorem runs_cells (d : Nat → Bool) (v : Nat → UInt8) : cellsR (runsOf d v) = cellsOf d v := by
  obtain ⟨g1, g2, g3, g4⟩ := nextS_spec d true 0 (by omega)
  unfold runsOf cellsOf
  rw [runsN_cells 65537 _ g2 (by omega) (fun h => by simpa using g4 h)]
  generalize nextS d true 0 = t at *
  rw [show (65536 : Nat) = t + (65536 - t) by omega, segC_split, segC_none t 0 (fun x h1 h2 => by have := g3 x h1 (by omega); simpa using this), show t + (65536 - t) - t = 65536 - t by omega, Nat.zero_add]; rfl
/-- runs that lie apart, in ascending order, none before lo -/
def Sep : Nat → List (Nat × List UInt8) → Prop
  | _, [] => True
  | lo, (a, l) :: R => lo ≤ a ∧ l ≠ [] ∧ a + l.length ≤ 65536 ∧ Sep (a + l.length + 1) R
theorem Sep.mono : ∀ {R : List (Nat × List UInt8)} {lo lo' : Nat}, Sep lo R → lo' ≤ lo → Sep lo' R
  | [], _, _, _, _ => trivial
  | (_, _) :: _, _, _, h, hl => ⟨Nat.le_trans hl h.1, h.2⟩
theorem bytesOf_len (v : Nat → UInt8) (a n : Nat) : (bytesOf v a n).length = n := by simp [bytesOf]
theorem runsN_sep {d : Nat → Bool} {v : Nat → UInt8} : ∀ g f, (f < 65536 → d f = true) → Sep f (runsN d v g f)
  | 0, f, _ => trivial
  | g + 1, f, h3 => by
    rw [runsN]
    by_cases h : f < 65536
    · rw [if_pos h]
      obtain ⟨p1, p2⟩ := next_past h (h3 h)
      obtain ⟨g1, g2, g3, g4⟩ := nextS_spec d true (nextS d false f) p2
      obtain ⟨k1, k2, k3, k4⟩ := nextS_spec d false f (by omega)
      have hgt : nextS d false f < nextS d true (nextS d false f) ∨ nextS d false f = 65536 := by
        rcases Nat.lt_or_ge (nextS d false f) 65536 with hx | hx
        · refine .inl ?_
          have e1 := k4 hx
          rcases Nat.lt_or_ge (nextS d false f) (nextS d true (nextS d false f)) with hy | hy
          · exact hy
          · have e : nextS d true (nextS d false f) = nextS d false f := Nat.le_antisymm hy g1
            have e2 := g4 (by omega)
            rw [e] at e2
            cases hd : d (nextS d false f) <;> simp [hd] at e1 e2
        · exact .inr (by omega)
      refine ⟨Nat.le_refl _, fun e => ?_, ?_, ?_⟩
      · have := bytesOf_len v f (nextS d false f - f)
        rw [e] at this
        simp at this; omega
      · rw [bytesOf_len]; omega
      · rw [bytesOf_len]
        rcases hgt with hx | hx
        · exact (runsN_sep g _ (fun hl => by simpa using g4 hl)).mono (by omega)
        · have e : nextS d true (nextS d false f) = 65536 := by omega
          rw [e, runsN_end]; trivial
    · rw [if_neg h]; trivial
theorem runs_sep (d : Nat → Bool) (v : Nat → UInt8) : Sep 0 (runsOf d v) := by
  obtain ⟨g1, g2, g3, g4⟩ := nextS_spec d true 0 (by omega)
  exact (runsN_sep 65537 _ (fun hl => by simpa using g4 hl)).mono (Nat.zero_le _)

def addLast (b : UInt8) : List (Nat × List UInt8) → List (Nat × List UInt8)
  | [] => []
  | [r] => [(r.1, r.2 ++ [b])]
  | r :: s :: t => r :: addLast b (s :: t)
theorem addLast_snoc (b : UInt8) (r : Nat × List UInt8) : ∀ R, addLast b (R ++ [r]) = R ++ [(r.1, r.2 ++ [b])]
  | [] => rfl
  | [s] => rfl
  | s :: t :: R => by
    show s :: addLast b ((t :: R) ++ [r]) = _
    rw [addLast_snoc b r (t :: R)]; rfl
/-- one more cell: the runs so far, and the address that would go on -/
def rstep (s : List (Nat × List UInt8) × Option Nat) (c : CellV) : List (Nat × List UInt8) × Option Nat :=
  (if s.2 = some c.addr then addLast c.byte s.1 else s.1 ++ [(c.addr, [c.byte])], some (c.addr + 1))
def runs02 (m : List CellV) : List (Nat × List UInt8) := (m.foldl rstep ([], none)).1
theorem rstep_run (R : List (Nat × List UInt8)) (a : Nat) : ∀ (l : List UInt8) (bs : List UInt8) (q : Nat), q = a + bs.length → (cellsF q l).foldl rstep (R ++ [(a, bs)], some q) = (R ++ [(a, bs ++ l)], some (q + l.length))
  | [], bs, q, _ => by simp [cellsF]
  | b :: l, bs, q, h => by
    show (cellsF (q + 1) l).foldl rstep (rstep (R ++ [(a, bs)], some q) ⟨q, b⟩) = _
    unfold rstep
    rw [if_pos rfl, addLast_snoc]
    have := rstep_run R a l (bs ++ [b]) (q + 1) (by simp; omega)
    rw [List.append_assoc] at this
    refine this.trans ?_
    simp; omega
theorem rstep_runs : ∀ (R Q : List (Nat × List UInt8)) (lo : Nat) (p : Option Nat), Sep lo R → (∀ x, p = some x → x < lo) → ((cellsR R).foldl rstep (Q, p)).1 = Q ++ R
  | [], Q, _, _, _, _ => by simp [cellsR]
  | (a, []) :: R, Q, lo, p, h, hp => absurd rfl h.2.1
  | (a, b :: l) :: R, Q, lo, p, h, hp => by
    obtain ⟨h1, _, _, h4⟩ := h
    show ((cellsF a (b :: l) ++ cellsR R).foldl rstep (Q, p)).1 = _
    rw [List.foldl_append]
    have e : (cellsF a (b :: l)).foldl rstep (Q, p) = (Q ++ [(a, b :: l)], some (a + (b :: l).length)) := by
      show (cellsF (a + 1) l).foldl rstep (rstep (Q, p) ⟨a, b⟩) = _
      have hr : rstep (Q, p) ⟨a, b⟩ = (Q ++ [(a, [b])], some (a + 1)) := by
        unfold rstep
        rw [if_neg (fun e => absurd (hp _ e) (by show ¬ a < lo; omega))]
      rw [hr, rstep_run Q a l [b] (a + 1) rfl]
      simp; omega
    rw [e, rstep_runs R _ _ _ h4 (fun x hx => by injection hx with hx; omega), List.append_assoc]; rfl
theorem runs02_sep {R : List (Nat × List UInt8)} {lo : Nat} (h : Sep lo R) : runs02 (cellsR R) = R := by
  have := rstep_runs R [] lo none h (fun x hx => by cases hx)
  simpa [runs02] using this
/-- the reference's runs are the program's -/
theorem runs02_of (d : Nat → Bool) (v : Nat → UInt8) : runs02 (cellsOf d v) = runsOf d v := by rw [← runs_cells]; exact runs02_sep (runs_sep d v)
theorem cellsF_len : ∀ (l : List UInt8) (a : Nat), (cellsF a l).length = l.length
  | [], _ => rfl
  | _ :: l, a => by rw [cellsF, List.length_cons, cellsF_len l, List.length_cons]
theorem cellsF_app : ∀ (l r : List UInt8) (a : Nat), cellsF a (l ++ r) = cellsF a l ++ cellsF (a + l.length) r
  | [], r, a => rfl
  | b :: l, r, a => by
    show _ :: cellsF (a + 1) (l ++ r) = _
    rw [cellsF_app l r (a + 1), show a + 1 + l.length = a + (b :: l).length by simp; omega]; rfl
/-- same cells, same runs -/
theorem runs_eq_iff {R S : List (Nat × List UInt8)} {a b : Nat} (hR : Sep a R) (hS : Sep b S) : R = S ↔ cellsR R = cellsR S :=
  ⟨fun h => by rw [h], fun h => by rw [← runs02_sep hR, h, runs02_sep hS]⟩
end Go.Proofs.YtcfjcoockklkeaaGreatDoor

/-
  PLAIN: the lines of a HEX text, and of a listing. Conditions: none.
-/
namespace Go.Proofs.YtcfjcoockklkeaaGreatDoor

theorem dig_inj : ∀ i, i < 16 → ∀ j, j < 16 → digs.getD i 0 = digs.getD j 0 → i = j := by decide
theorem dig_ge : ∀ i, i < 16 → 48 ≤ (digs.getD i 0).toNat := by decide
theorem hexs_ge : ∀ k n, ∀ c ∈ hexs n k, 48 ≤ c.toNat
  | 0, _, c, h => by simp [hexs] at h
  | k + 1, n, c, h => by
    rw [hexs, List.mem_append] at h
    rcases h with h | h
    · exact hexs_ge k _ c h
    · simp only [List.mem_singleton] at h
      subst h
      exact dig_ge _ (Nat.mod_lt _ (by omega))
theorem hexs_inj : ∀ k n m, n < 16 ^ k → m < 16 ^ k → hexs n k = hexs m k → n = m
  | 0, n, m, h1, h2, _ => by simp at h1 h2; omega
  | k + 1, n, m, h1, h2, h => by
    rw [Nat.pow_succ] at h1 h2
    rw [hexs, hexs] at h
    obtain ⟨e1, e2⟩ := List.append_inj' h rfl
    have e3 := hexs_inj k (n / 16) (m / 16) (by omega) (by omega) e1
    have e4 := dig_inj _ (Nat.mod_lt n (by omega)) _ (Nat.mod_lt m (by omega)) (by simpa using e2)
    omega
def byteTxt (b : UInt8) : List UInt8 := hexs b.toNat 2
theorem byteTxt_len (b : UInt8) : (byteTxt b).length = 2 := hexs_len 2 _
theorem byteTxt_inj (a b : UInt8) (h : byteTxt a = byteTxt b) : a = b := by
  have h1 := a.toNat_lt
  have h2 := b.toNat_lt
  exact UInt8.toNat_inj.1 (hexs_inj 2 _ _ (by omega) (by omega) h)
theorem flatMap_inj {f : UInt8 → List UInt8} {n : Nat} (hn : 0 < n) (hl : ∀ b, (f b).length = n) (hi : ∀ a b, f a = f b → a = b) : ∀ l r : List UInt8, l.flatMap f = r.flatMap f → l = r
  | [], [], _ => rfl
  | [], b :: r, h => by
    have := congrArg List.length h
    simp [hl] at this; omega
  | a :: l, [], h => by
    have := congrArg List.length h
    simp [hl] at this; omega
  | a :: l, b :: r, h => by
    rw [List.flatMap_cons, List.flatMap_cons] at h
    obtain ⟨e1, e2⟩ := List.append_inj h (by rw [hl, hl])
    rw [hi _ _ e1, flatMap_inj hn hl hi l r e2]
/-- the lines, a line feed behind each -/
def joinL (L : List (List UInt8)) : List UInt8 := L.flatMap fun x => x ++ [10]
theorem split10 : ∀ {x y r s : List UInt8}, (∀ c ∈ x, c ≠ 10) → (∀ c ∈ y, c ≠ 10) → x ++ 10 :: r = y ++ 10 :: s → x = y ∧ r = s
  | [], [], _, _, _, _, h => ⟨rfl, by injection h⟩
  | [], c :: y, _, _, _, hy, h => by
    injection h with e _
    exact absurd e.symm (hy c (by simp))
  | c :: x, [], _, _, hx, _, h => by
    injection h with e _
    exact absurd e (hx c (by simp))
  | c :: x, d :: y, r, s, hx, hy, h => by
    injection h with e1 e2
    obtain ⟨h1, h2⟩ := split10 (fun z hz => hx z (by simp [hz])) (fun z hz => hy z (by simp [hz])) e2
    exact ⟨by rw [e1, h1], h2⟩
theorem joinL_cons (x : List UInt8) (L : List (List UInt8)) : joinL (x :: L) = x ++ 10 :: joinL L := by simp [joinL]
theorem joinL_inj : ∀ {L M : List (List UInt8)}, (∀ x ∈ L, ∀ c ∈ x, c ≠ 10) → (∀ x ∈ M, ∀ c ∈ x, c ≠ 10) → joinL L = joinL M → L = M
  | [], [], _, _, _ => rfl
  | [], y :: M, _, _, h => by rw [joinL_cons] at h; simp [joinL] at h
  | x :: L, [], _, _, h => by rw [joinL_cons] at h; simp [joinL] at h
  | x :: L, y :: M, hx, hy, h => by
    rw [joinL_cons, joinL_cons] at h
    obtain ⟨e1, e2⟩ := split10 (hx x (by simp)) (hy y (by simp)) h
    rw [e1, joinL_inj (fun z hz => hx z (by simp [hz])) (fun z hz => hy z (by simp [hz])) e2]
theorem joinL_app (L M : List (List UInt8)) : joinL (L ++ M) = joinL L ++ joinL M := by simp [joinL]
theorem joinL_count : ∀ (L : List (List UInt8)), (∀ x ∈ L, ∀ c ∈ x, c ≠ 10) → (joinL L).count 10 = L.length
  | [], _ => rfl
  | x :: L, h => by
    rw [joinL_cons, List.count_append, List.count_cons_self, joinL_count L (fun z hz => h z (by simp [hz])), List.count_eq_zero.2 (fun hm => h x (by simp) 10 hm rfl), List.length_cons]; omega

/-- data records of n bytes each -/
def splitF (n : Nat) : Nat → Nat → List UInt8 → List (Nat × List UInt8)
  | 0, _, _ => []
  | f + 1, a, l => if l = [] then [] else (a, l.take n) :: splitF n f (a + n) (l.drop n)
def splitL (n a : Nat) (l : List UInt8) : List (Nat × List UInt8) := splitF n l.length a l
theorem splitF_nil (n : Nat) : ∀ f a, splitF n f a [] = []
  | 0, _ => rfl
  | f + 1, a => by rw [splitF, if_pos rfl]
theorem splitF_fuel {n : Nat} (hn : 0 < n) : ∀ f g a l, l.length ≤ f → l.length ≤ g → splitF n f a l = splitF n g a l
  | 0, g, a, l, h1, h2 => by
    obtain rfl : l = [] := List.length_eq_zero_iff.1 (by omega)
    rw [splitF_nil, splitF_nil]
  | f + 1, 0, a, l, h1, h2 => by
    obtain rfl : l = [] := List.length_eq_zero_iff.1 (by omega)
    rw [splitF_nil, splitF_nil]
  | f + 1, g + 1, a, l, h1, h2 => by
    rw [splitF, splitF]
    by_cases h : l = []
    · rw [if_pos h, if_pos h]
    · have := List.length_pos_iff.2 h
      rw [if_neg h, if_neg h, splitF_fuel hn f g _ _ (by simp; omega) (by simp; omega)]
theorem splitL_nil (n a : Nat) : splitL n a [] = [] := rfl
theorem splitL_step {n : Nat} (hn : 0 < n) (a : Nat) (l : List UInt8) (h : l ≠ []) : splitL n a l = (a, l.take n) :: splitL n (a + n) (l.drop n) := by
  have hp := List.length_pos_iff.2 h
  unfold splitL
  rw [splitF_fuel hn l.length (l.length - 1 + 1) a l (Nat.le_refl _) (by omega), splitF, if_neg h]
  congr 1
  exact splitF_fuel hn _ _ _ _ (by simp; omega) (Nat.le_refl _)
theorem splitL_cells {n : Nat} (hn : 0 < n) : ∀ (k : Nat) (a : Nat) (l : List UInt8), l.length ≤ k → cellsR (splitL n a l) = cellsF a l
  | 0, a, l, h => by
    obtain rfl : l = [] := List.length_eq_zero_iff.1 (by omega)
    rfl
  | k + 1, a, l, h => by
    by_cases hl : l = []
    · subst hl; rfl
    · have hp := List.length_pos_iff.2 hl
      rw [splitL_step hn a l hl]
      show cellsF a (l.take n) ++ cellsR _ = _
      rw [splitL_cells hn k _ _ (by simp; omega)]
      by_cases hle : n ≤ l.length
      · have := cellsF_app (l.take n) (l.drop n) a
        rw [List.take_append_drop, List.length_take, Nat.min_eq_left hle] at this
        exact this.symm
      · rw [List.drop_eq_nil_of_le (by omega), List.take_of_length_le (by omega)]
        simp [cellsF]
/-- the parts of n bytes at most, none empty, none beyond the end -/
theorem splitL_mem {n : Nat} (hn : 0 < n) : ∀ (k : Nat) (a : Nat) (l : List UInt8), l.length ≤ k → ∀ r ∈ splitL n a l, r.2 ≠ [] ∧ r.2.length ≤ n ∧ a ≤ r.1 ∧ r.1 + r.2.length ≤ a + l.length
  | 0, a, l, h, r, hr => by
    obtain rfl : l = [] := List.length_eq_zero_iff.1 (by omega)
    simp [splitL_nil] at hr
  | k + 1, a, l, h, r, hr => by
    by_cases hl : l = []
    · subst hl; simp [splitL_nil] at hr
    · have hp := List.length_pos_iff.2 hl
      rw [splitL_step hn a l hl] at hr
      rcases List.mem_cons.1 hr with rfl | hr
      · refine ⟨fun e => ?_, by simp; omega, Nat.le_refl _, by show a + (l.take n).length ≤ _; rw [List.length_take]; omega⟩
        have := congrArg List.length e
        rw [List.length_take] at this
        simp only [List.length_nil] at this; omega
      · obtain ⟨g1, g2, g3, g4⟩ := splitL_mem hn k _ _ (by simp; omega) r hr
        have g5 : 0 < r.2.length := List.length_pos_iff.2 g1
        rw [List.length_drop] at g4
        exact ⟨g1, g2, by omega, by omega⟩
def recB (t a : Nat) (l : List UInt8) : List UInt8 := lowB l.length :: lowB (a / 256 : Nat) :: lowB a :: lowB t :: l
def recLine (t a : Nat) (l : List UInt8) : List UInt8 := 58 :: (recB t a l ++ [sum03 (recB t a l)]).flatMap byteTxt
theorem lowB_nat (n : Nat) : (lowB n).toNat = n % 256 := by have := lowB_is n; omega
theorem recLine_inj {a b : Nat} {l r : List UInt8} (ha : a < 65536) (hb : b < 65536) (h : recLine 0 a l = recLine 0 b r) : a = b ∧ l = r := by
  injection h with _ h
  have e := flatMap_inj (by omega) byteTxt_len byteTxt_inj _ _ h
  obtain ⟨e, _⟩ := List.append_inj' e rfl
  unfold recB at e
  injection e with e1 e
  injection e with e2 e
  injection e with e3 e
  injection e with e4 e
  have e2 := congrArg UInt8.toNat e2
  have e3 := congrArg UInt8.toNat e3
  rw [lowB_nat, lowB_nat] at e2 e3
  exact ⟨by omega, e⟩
theorem byteTxt_ge {c : UInt8} {l : List UInt8} (h : c ∈ l.flatMap byteTxt) : 48 ≤ c.toNat := by
  obtain ⟨b, _, hc⟩ := List.mem_flatMap.1 h
  exact hexs_ge _ _ _ hc
theorem recLine_no10 (t a : Nat) (l : List UInt8) : ∀ c ∈ recLine t a l, c ≠ 10 := by
  intro c hc e
  subst e
  rcases List.mem_cons.1 hc with h | h
  · cases h
  · have := byteTxt_ge h
    simp at this
def endLine : List UInt8 := [58, 48, 48, 48, 48, 48, 48, 48, 49, 70, 70]
theorem endLine_is : recLine 1 0 [] = endLine := by decide
/-- the data records of runs -/
def recs (n : Nat) (R : List (Nat × List UInt8)) : List (Nat × List UInt8) := R.flatMap fun r => splitL n r.1 r.2
def linesOf (n : Nat) (R : List (Nat × List UInt8)) : List (List UInt8) := (recs n R).map (fun r => recLine 0 r.1 r.2) ++ [endLine]
def textOf (n : Nat) (R : List (Nat × List UInt8)) : List UInt8 := joinL (linesOf n R)
theorem linesOf_no10 (n : Nat) (R : List (Nat × List UInt8)) : ∀ x ∈ linesOf n R, ∀ c ∈ x, c ≠ 10 := by
  intro x hx
  rcases List.mem_append.1 hx with h | h
  · obtain ⟨r, _, rfl⟩ := List.mem_map.1 h
    exact recLine_no10 _ _ _
  · simp at h
    subst h
    rw [← endLine_is]
    exact recLine_no10 _ _ _
theorem textOf_count (n : Nat) (R : List (Nat × List UInt8)) : (textOf n R).count 10 = (linesOf n R).length := joinL_count _ (linesOf_no10 n R)
theorem recs_cells {n : Nat} (hn : 0 < n) : ∀ R, cellsR (recs n R) = cellsR R
  | [] => rfl
  | r :: R => by
    have e := recs_cells hn R
    unfold cellsR recs at *
    rw [List.flatMap_cons, List.flatMap_append, e]
    have := splitL_cells hn r.2.length r.1 r.2 (Nat.le_refl _)
    unfold cellsR at this
    rw [this]; rfl
theorem sep_le : ∀ {R : List (Nat × List UInt8)} {lo : Nat}, Sep lo R → ∀ r ∈ R, r.1 + r.2.length ≤ 65536 ∧ r.2 ≠ []
  | [], _, _, r, hr => by simp at hr
  | (a, l) :: R, lo, h, r, hr => by
    rcases List.mem_cons.1 hr with rfl | hr
    · exact ⟨h.2.2.1, h.2.1⟩
    · exact sep_le h.2.2.2 r hr
theorem recs_mem {n : Nat} (hn : 0 < n) {R : List (Nat × List UInt8)} {lo : Nat} (h : Sep lo R) : ∀ r ∈ recs n R, r.2 ≠ [] ∧ r.2.length ≤ n ∧ r.1 + r.2.length ≤ 65536 := by
  intro r hr
  obtain ⟨q, hq, hr⟩ := List.mem_flatMap.1 hr
  obtain ⟨g1, g2, g3, g4⟩ := splitL_mem hn _ _ _ (Nat.le_refl _) r hr
  have := (sep_le h q hq).1
  exact ⟨g1, g2, by omega⟩
theorem map_inj_on {α β : Type} {f : α → β} : ∀ {l r : List α}, (∀ x ∈ l, ∀ y ∈ r, f x = f y → x = y) → l.map f = r.map f → l = r
  | [], [], _, _ => rfl
  | [], _ :: _, _, h => by simp at h
  | _ :: _, [], _, h => by simp at h
  | x :: l, y :: r, hf, h => by
    injection h with h1 h2
    rw [hf x (by simp) y (by simp) h1, map_inj_on (fun a ha b hb => hf a (by simp [ha]) b (by simp [hb])) h2]
theorem text_inj {R S : List (Nat × List UInt8)} {a b : Nat} (hR : Sep a R) (hS : Sep b S) (h : textOf 16 R = textOf 16 S) : cellsR R = cellsR S := by
  have e := joinL_inj (linesOf_no10 16 R) (linesOf_no10 16 S) h
  obtain ⟨e, _⟩ := List.append_inj' e rfl
  have e := map_inj_on (f := fun r : Nat × List UInt8 => recLine 0 r.1 r.2) (fun x hx y hy e => by
    obtain ⟨x1, _, x3⟩ := recs_mem (by omega) hR x hx
    obtain ⟨y1, _, y3⟩ := recs_mem (by omega) hS y hy
    have := List.length_pos_iff.2 x1
    have := List.length_pos_iff.2 y1
    obtain ⟨e1, e2⟩ := recLine_inj (by omega) (by omega) e
    exact Prod.ext e1 e2) e
  rw [← recs_cells (n := 16) (by omega) R, e, recs_cells (by omega)]
end Go.Proofs.YtcfjcoockklkeaaGreatDoor

/-
  PLAIN: the listing of runs, and of cells. Conditions: none.
-/
namespace Go.Proofs.YtcfjcoockklkeaaGreatDoor

/-- how many bytes of a run stand in its first line -/
def inLine (a n : Nat) : Nat := min n (16 - a % 16)
def partF : Nat → Nat → List UInt8 → List (Nat × List UInt8)
  | 0, _, _ => []
  | f + 1, a, l => if l = [] then [] else (a, l.take (inLine a l.length)) :: partF f (a + inLine a l.length) (l.drop (inLine a l.length))
def partL (a : Nat) (l : List UInt8) : List (Nat × List UInt8) := partF l.length a l
theorem inLine_pos {a n : Nat} (h : 0 < n) : 0 < inLine a n ∧ inLine a n ≤ n ∧ inLine a n + a % 16 ≤ 16 := by unfold inLine; omega
theorem partF_nil : ∀ f a, partF f a [] = []
  | 0, _ => rfl
  | f + 1, a => by rw [partF, if_pos rfl]
theorem partF_fuel : ∀ f g a l, l.length ≤ f → l.length ≤ g → partF f a l = partF g a l
  | 0, g, a, l, h1, h2 => by
    obtain rfl : l = [] := List.length_eq_zero_iff.1 (by omega)
    rw [partF_nil, partF_nil]
  | f + 1, 0, a, l, h1, h2 => by
    obtain rfl : l = [] := List.length_eq_zero_iff.1 (by omega)
    rw [partF_nil, partF_nil]
  | f + 1, g + 1, a, l, h1, h2 => by
    rw [partF, partF]
    by_cases h : l = []
    · rw [if_pos h, if_pos h]
    · have := List.length_pos_iff.2 h
      have := (inLine_pos (a := a) this).1
      rw [if_neg h, if_neg h, partF_fuel f g _ _ (by simp; omega) (by simp; omega)]
theorem partL_nil (a : Nat) : partL a [] = [] := rfl
theorem partL_step (a : Nat) (l : List UInt8) (h : l ≠ []) : partL a l = (a, l.take (inLine a l.length)) :: partL (a + inLine a l.length) (l.drop (inLine a l.length)) := by
  have hp := List.length_pos_iff.2 h
  have hi := (inLine_pos (a := a) hp).1
  unfold partL
  rw [partF_fuel l.length (l.length - 1 + 1) a l (Nat.le_refl _) (by omega), partF, if_neg h]
  congr 1
  exact partF_fuel _ _ _ _ (by simp; omega) (Nat.le_refl _)
theorem partL_cells : ∀ (k : Nat) (a : Nat) (l : List UInt8), l.length ≤ k → cellsR (partL a l) = cellsF a l
  | 0, a, l, h => by
    obtain rfl : l = [] := List.length_eq_zero_iff.1 (by omega)
    rfl
  | k + 1, a, l, h => by
    by_cases hl : l = []
    · subst hl; rfl
    · have hp := List.length_pos_iff.2 hl
      obtain ⟨i1, i2, _⟩ := inLine_pos (a := a) hp
      rw [partL_step a l hl]
      generalize inLine a l.length = n at *
      show cellsF a (l.take n) ++ cellsR _ = _
      rw [partL_cells k _ _ (by simp; omega)]
      have := cellsF_app (l.take n) (l.drop n) a
      rw [List.take_append_drop, List.length_take, Nat.min_eq_left i2] at this
      exact this.symm
def dumpLine (a : Nat) (l : List UInt8) : List UInt8 := hexs a 4 ++ 58 :: l.flatMap fun b => 32 :: byteTxt b
def parts (R : List (Nat × List UInt8)) : List (Nat × List UInt8) := R.flatMap fun r => partL r.1 r.2
def dumpOf (R : List (Nat × List UInt8)) : List UInt8 := joinL ((parts R).map fun r => dumpLine r.1 r.2)
theorem parts_cells : ∀ R, cellsR (parts R) = cellsR R
  | [] => rfl
  | r :: R => by
    have e := parts_cells R
    unfold cellsR parts at *
    rw [List.flatMap_cons, List.flatMap_append, e]
    have := partL_cells r.2.length r.1 r.2 (Nat.le_refl _)
    unfold cellsR at this
    rw [this]; rfl
/-- the reference's listing, one cell more: the text, and the address that would go on -/
def dstep (s : List UInt8 × Option Nat) (c : CellV) : List UInt8 × Option Nat :=
  ((if s.2 ≠ none ∧ (s.2 ≠ some c.addr ∨ c.addr % 16 = 0) then s.1 ++ [10] else s.1) ++ (if s.2 ≠ some c.addr ∨ c.addr % 16 = 0 then hexs c.addr 4 ++ [58] else []) ++ 32 :: byteTxt c.byte, some (c.addr + 1))
def dump02 (m : List CellV) : List UInt8 := let s := (m.foldl dstep ([], none)).1; if s = [] then [] else s ++ [10]
theorem dstep_more (s : List UInt8) : ∀ (l : List UInt8) (q : Nat), q % 16 ≠ 0 → q % 16 + l.length ≤ 16 → (cellsF q l).foldl dstep (s, some q) = (s ++ l.flatMap (fun b => 32 :: byteTxt b), some (q + l.length))
  | [], q, _, _ => by simp [cellsF]
  | b :: l, q, h1, h2 => by
    show (cellsF (q + 1) l).foldl dstep (dstep (s, some q) ⟨q, b⟩) = _
    have e : dstep (s, some q) ⟨q, b⟩ = (s ++ 32 :: byteTxt b, some (q + 1)) := by
      unfold dstep
      simp [h1]
    rw [e]
    cases l with
    | nil => simp [cellsF]
    | cons b2 l =>
      rw [dstep_more _ (b2 :: l) (q + 1) (by simp at h2; omega) (by simp at h2 ⊢; omega)]
      simp; omega
theorem dstep_line {s : List UInt8} {p : Option Nat} {a : Nat} {l : List UInt8} (hl : l ≠ []) (h : p ≠ some a ∨ a % 16 = 0) (hn : a % 16 + l.length ≤ 16) :
    (cellsF a l).foldl dstep (s, p) = ((if p = none then s else s ++ [10]) ++ dumpLine a l, some (a + l.length)) := by
  cases l with
  | nil => exact absurd rfl hl
  | cons b l =>
    show (cellsF (a + 1) l).foldl dstep (dstep (s, p) ⟨a, b⟩) = _
    have e : dstep (s, p) ⟨a, b⟩ = ((if p = none then s else s ++ [10]) ++ (hexs a 4 ++ [58]) ++ 32 :: byteTxt b, some (a + 1)) := by
      unfold dstep
      simp only [if_pos h]
      cases p with
      | none => simp
      | some q => rw [if_pos ⟨by simp, h⟩, if_neg (by simp)]
    rw [e]
    cases l with
    | nil => simp [cellsF, dumpLine]
    | cons b2 l =>
      rw [dstep_more _ (b2 :: l) (a + 1) (by simp at hn; omega) (by simp at hn ⊢; omega)]
      simp [dumpLine]; omega
/-- lines of a listing: none empty, each within its 16, each fresh or at a 16's start -/
def Lined : Option Nat → List (Nat × List UInt8) → Prop
  | _, [] => True
  | p, (a, l) :: D => l ≠ [] ∧ a % 16 + l.length ≤ 16 ∧ (p ≠ some a ∨ a % 16 = 0) ∧ Lined (some (a + l.length)) D
theorem dstep_lines : ∀ (D : List (Nat × List UInt8)) (s : List UInt8) (p : Nat), Lined (some p) D → ((cellsR D).foldl dstep (s, some p)).1 = s ++ D.flatMap fun r => 10 :: dumpLine r.1 r.2
  | [], s, p, _ => by simp [cellsR]
  | (a, l) :: D, s, p, h => by
    obtain ⟨h1, h2, h3, h4⟩ := h
    show ((cellsF a l ++ cellsR D).foldl dstep (s, some p)).1 = _
    rw [List.foldl_append, dstep_line h1 h3 h2, dstep_lines D _ _ h4]
    simp
theorem join_shift : ∀ (L : List (List UInt8)) (x : List UInt8), x ++ (L.flatMap fun y => 10 :: y) ++ [10] = joinL (x :: L)
  | [], x => by simp [joinL]
  | y :: L, x => by
    have := join_shift L y
    rw [joinL_cons, ← this]
    simp
theorem dump02_lined {D : List (Nat × List UInt8)} (h : Lined none D) : dump02 (cellsR D) = joinL (D.map fun r => dumpLine r.1 r.2) := by
  cases D with
  | nil => rfl
  | cons r D =>
    obtain ⟨a, l⟩ := r
    obtain ⟨h1, h2, h3, h4⟩ := h
    have e : ((cellsR ((a, l) :: D)).foldl dstep ([], none)).1 = dumpLine a l ++ D.flatMap fun r => 10 :: dumpLine r.1 r.2 := by
      show ((cellsF a l ++ cellsR D).foldl dstep ([], none)).1 = _
      rw [List.foldl_append, dstep_line h1 h3 h2, dstep_lines D _ _ h4]
      simp
    unfold dump02
    rw [e]
    have hne : dumpLine a l ++ (D.flatMap fun r => 10 :: dumpLine r.1 r.2) ≠ [] := by simp [dumpLine]
    show (if _ then _ else _) = _
    rw [if_neg hne, List.map_cons, ← join_shift, List.flatMap_map]
theorem partL_lined : ∀ (k a : Nat) (l : List UInt8) (p : Option Nat) (D : List (Nat × List UInt8)), l.length ≤ k → l ≠ [] → (p ≠ some a ∨ a % 16 = 0) → Lined (some (a + l.length)) D → Lined p (partL a l ++ D)
  | 0, a, l, p, D, h, hl, _, _ => absurd (List.length_eq_zero_iff.1 (by omega)) hl
  | k + 1, a, l, p, D, h, hl, hp, hD => by
    have hpos := List.length_pos_iff.2 hl
    obtain ⟨i1, i2, i3⟩ := inLine_pos (a := a) hpos
    have hmin : inLine a l.length = l.length ∨ (a + inLine a l.length) % 16 = 0 := by unfold inLine; omega
    rw [partL_step a l hl]
    generalize inLine a l.length = n at *
    have ht : (l.take n).length = n := by simp; omega
    refine ⟨fun e => ?_, by rw [ht]; omega, hp, ?_⟩
    · rw [e] at ht; simp at ht; omega
    · rw [ht]
      by_cases hd : l.drop n = []
      · have hn : n = l.length := by have := List.drop_eq_nil_iff.1 hd; omega
        rw [hd, partL_nil, hn]
        exact hD
      · refine partL_lined k _ _ _ _ (by simp; omega) hd (.inr ?_) ?_
        · rcases hmin with e | e
          · rw [e] at hd; simp at hd
          · exact e
        · rw [List.length_drop, show a + n + (l.length - n) = a + l.length by omega]
          exact hD
theorem parts_lined : ∀ (R : List (Nat × List UInt8)) (lo : Nat) (p : Option Nat), Sep lo R → (∀ x, p = some x → x < lo) → Lined p (parts R)
  | [], _, _, _, _ => trivial
  | (a, l) :: R, lo, p, h, hp => by
    obtain ⟨h1, h2, h3, h4⟩ := h
    show Lined p (partL a l ++ parts R)
    refine partL_lined l.length a l p _ (Nat.le_refl _) h2 (.inl fun e => ?_) (parts_lined R _ _ h4 (fun x hx => by injection hx with hx; omega))
    have := hp a e
    omega
theorem dump02_of (d : Nat → Bool) (v : Nat → UInt8) : dump02 (cellsOf d v) = dumpOf (runsOf d v) := by
  rw [← runs_cells, ← parts_cells, dump02_lined (parts_lined _ 0 none (runs_sep d v) (fun x hx => by cases hx))]; rfl
theorem partL_mem : ∀ (k : Nat) (a : Nat) (l : List UInt8), l.length ≤ k → ∀ r ∈ partL a l, r.2 ≠ [] ∧ r.1 + r.2.length ≤ a + l.length
  | 0, a, l, h, r, hr => by
    obtain rfl : l = [] := List.length_eq_zero_iff.1 (by omega)
    simp [partL_nil] at hr
  | k + 1, a, l, h, r, hr => by
    by_cases hl : l = []
    · subst hl; simp [partL_nil] at hr
    · have hp := List.length_pos_iff.2 hl
      obtain ⟨i1, i2, _⟩ := inLine_pos (a := a) hp
      rw [partL_step a l hl] at hr
      generalize inLine a l.length = n at *
      rcases List.mem_cons.1 hr with rfl | hr
      · refine ⟨fun e => ?_, by show a + (l.take n).length ≤ _; rw [List.length_take]; omega⟩
        have := congrArg List.length e
        rw [List.length_take] at this
        simp only [List.length_nil] at this; omega
      · obtain ⟨g1, g4⟩ := partL_mem k _ _ (by simp; omega) r hr
        rw [List.length_drop] at g4
        exact ⟨g1, by omega⟩
theorem dumpLine_inj {a b : Nat} {l r : List UInt8} (ha : a < 65536) (hb : b < 65536) (h : dumpLine a l = dumpLine b r) : a = b ∧ l = r := by
  obtain ⟨e1, e2⟩ := List.append_inj h (by rw [hexs_len, hexs_len])
  injection e2 with _ e2
  exact ⟨hexs_inj 4 _ _ (by omega) (by omega) e1, flatMap_inj (n := 3) (by omega) (fun b => by rw [List.length_cons, byteTxt_len]) (fun x y e => by injection e with _ e; exact byteTxt_inj _ _ e) _ _ e2⟩
theorem dumpLine_no10 (a : Nat) (l : List UInt8) : ∀ c ∈ dumpLine a l, c ≠ 10 := by
  intro c hc e
  subst e
  rcases List.mem_append.1 hc with h | h
  · have := hexs_ge _ _ _ h
    simp at this
  · rcases List.mem_cons.1 h with h | h
    · cases h
    · obtain ⟨b, _, h⟩ := List.mem_flatMap.1 h
      rcases List.mem_cons.1 h with h | h
      · cases h
      · have := hexs_ge _ _ _ h
        simp at this
theorem parts_mem {R : List (Nat × List UInt8)} {lo : Nat} (h : Sep lo R) : ∀ r ∈ parts R, r.2 ≠ [] ∧ r.1 + r.2.length ≤ 65536 := by
  intro r hr
  obtain ⟨q, hq, hr⟩ := List.mem_flatMap.1 hr
  obtain ⟨g1, g4⟩ := partL_mem _ _ _ (Nat.le_refl _) r hr
  have := (sep_le h q hq).1
  exact ⟨g1, by omega⟩
theorem dump_inj {R S : List (Nat × List UInt8)} {a b : Nat} (hR : Sep a R) (hS : Sep b S) (h : dumpOf R = dumpOf S) : cellsR R = cellsR S := by
  have hno : ∀ D : List (Nat × List UInt8), ∀ x ∈ D.map (fun r => dumpLine r.1 r.2), ∀ c ∈ x, c ≠ 10 := fun D x hx => by
    obtain ⟨r, _, rfl⟩ := List.mem_map.1 hx
    exact dumpLine_no10 _ _
  have e := joinL_inj (hno _) (hno _) h
  have e := map_inj_on (f := fun r : Nat × List UInt8 => dumpLine r.1 r.2) (fun x hx y hy e => by
    obtain ⟨x1, x3⟩ := parts_mem hR x hx
    obtain ⟨y1, y3⟩ := parts_mem hS y hy
    have := List.length_pos_iff.2 x1
    have := List.length_pos_iff.2 y1
    obtain ⟨e1, e2⟩ := dumpLine_inj (by omega) (by omega) e
    exact Prod.ext e1 e2) e
  rw [← parts_cells R, e, parts_cells]
end Go.Proofs.YtcfjcoockklkeaaGreatDoor

/-
  PLAIN: the record of a line; records put one after the other. Conditions: none.
-/
namespace Go.Proofs.YtcfjcoockklkeaaGreatDoor

def hexV (c : UInt8) : Nat := if 48 ≤ c.toNat ∧ c.toNat ≤ 57 then c.toNat - 48 else if 97 ≤ c.toNat ∧ c.toNat ≤ 102 then c.toNat - 97 + 10 else if 65 ≤ c.toNat ∧ c.toNat ≤ 70 then c.toNat - 65 + 10 else 99
/-- the bytes that digits denote -/
def bytesH : List UInt8 → Option (List UInt8)
  | [] => some []
  | [_] => none
  | a :: b :: r => if 15 < hexV a ∨ 15 < hexV b then none else (bytesH r).map (UInt8.ofNat (16 * hexV a + hexV b) :: ·)
structure RecV where
  t : Nat
  a : Nat
  l : List UInt8
def recZ : RecV := ⟨0, 0, []⟩
def byteN (b : List UInt8) (i : Nat) : Nat := (b.getD i 0).toNat
def parseB (b : List UInt8) : Nat × RecV :=
  if b.length < 5 then (3, recZ) else if byteN b 0 + 5 ≠ b.length then (6, recZ) else if sumN b ≠ 0 then (5, recZ)
  else (0, ⟨byteN b 3, byteN b 1 * 256 + byteN b 2, (b.drop 4).take (b.length - 5)⟩)
def parseH (s : List UInt8) : Nat × RecV :=
  match s with
  | [] => (3, recZ)
  | c :: r => if c = 58 then (match bytesH r with | none => (3, recZ) | some b => parseB b) else (3, recZ)
theorem parseH_colon (r : List UInt8) : parseH (58 :: r) = (match bytesH r with | none => (3, recZ) | some b => parseB b) := rfl
theorem hexV_dig : ∀ i, i < 16 → hexV (digs.getD i 0) = i := by decide
theorem byteTxt_two (b : UInt8) : byteTxt b = [digs.getD (b.toNat / 16 % 16) 0, digs.getD (b.toNat % 16) 0] := rfl
theorem bytesH_cons (b : UInt8) (r : List UInt8) : bytesH (byteTxt b ++ r) = (bytesH r).map (b :: ·) := by
  rw [byteTxt_two]
  show (if _ then _ else _) = _
  have hb := b.toNat_lt
  rw [hexV_dig _ (Nat.mod_lt _ (by omega)), hexV_dig _ (Nat.mod_lt _ (by omega)), if_neg (by omega)]
  have e : 16 * (b.toNat / 16 % 16) + b.toNat % 16 = b.toNat := by omega
  rw [e, UInt8.ofNat_toNat]; rfl
theorem bytesH_txt : ∀ l : List UInt8, bytesH (l.flatMap byteTxt) = some l
  | [] => rfl
  | b :: l => by rw [List.flatMap_cons, bytesH_cons, bytesH_txt l]; rfl
theorem sumN_app (l : List UInt8) (c : UInt8) : sumN (l ++ [c]) = (sumN l + c.toNat) % 256 := by
  unfold sumN
  rw [List.foldl_append]; rfl
theorem sumN_256 (l : List UInt8) : sumN l < 256 := by
  unfold sumN
  suffices ∀ (l : List UInt8) n, n < 256 → l.foldl (fun n x => (n + x.toNat) % 256) n < 256 from this l 0 (by omega)
  intro l
  induction l with
  | nil => exact fun n h => h
  | cons x l ih => exact fun n _ => ih _ (Nat.mod_lt _ (by omega))
theorem sumN_sum (l : List UInt8) : sumN (l ++ [sum03 l]) = 0 := by
  have h := sumN_256 l
  have e : ((sum03 l).toNat : Int) = ((256 - (sumN l : Int)) % 256) % 256 := lowB_is _
  rw [sumN_app]
  omega
theorem parse_lineT {t a : Nat} {l : List UInt8} (ht : t < 256) (ha : a < 65536) (hl : l.length ≤ 255) : parseH (recLine t a l) = (0, ⟨t, a, l⟩) := by
  unfold recLine
  rw [parseH_colon, bytesH_txt]
  show parseB _ = _
  have hlen : (recB t a l ++ [sum03 (recB t a l)]).length = l.length + 5 := by simp [recB]
  have hs := sumN_sum (recB t a l)
  have h0 : byteN (recB t a l ++ [sum03 (recB t a l)]) 0 = l.length := (lowB_nat l.length).trans (by omega)
  have h1 : byteN (recB t a l ++ [sum03 (recB t a l)]) 1 = a / 256 := (lowB_nat (a / 256)).trans (by omega)
  have h2 : byteN (recB t a l ++ [sum03 (recB t a l)]) 2 = a % 256 := lowB_nat a
  have h3 : byteN (recB t a l ++ [sum03 (recB t a l)]) 3 = t := (lowB_nat t).trans (by omega)
  have h4 : ((recB t a l ++ [sum03 (recB t a l)]).drop 4).take (l.length + 5 - 5) = l := by
    show (l ++ [_]).take (l.length + 5 - 5) = l
    rw [Nat.add_sub_cancel, List.take_left]
  unfold parseB
  rw [hlen, if_neg (by omega), h0, if_neg (by omega), hs, if_neg (by omega), h1, h2, h3, h4]
  have : a / 256 * 256 + a % 256 = a := by omega
  rw [this]
theorem parse_line {a : Nat} {l : List UInt8} (ha : a < 65536) (hl : l.length ≤ 255) : parseH (recLine 0 a l) = (0, ⟨0, a, l⟩) := parse_lineT (by omega) ha hl

/-- runs in ascending order, none before lo -/
def Asc : Nat → List (Nat × List UInt8) → Prop
  | _, [] => True
  | lo, (a, l) :: D => lo ≤ a ∧ l ≠ [] ∧ a + l.length ≤ 65536 ∧ Asc (a + l.length) D
theorem Asc.mono : ∀ {R : List (Nat × List UInt8)} {lo lo' : Nat}, Asc lo R → lo' ≤ lo → Asc lo' R
  | [], _, _, _, _ => trivial
  | (_, _) :: _, _, _, h, hl => ⟨Nat.le_trans hl h.1, h.2⟩
theorem splitL_asc {n : Nat} (hn : 0 < n) : ∀ (k a : Nat) (l : List UInt8) (D : List (Nat × List UInt8)), l.length ≤ k → a + l.length ≤ 65536 → Asc (a + l.length) D → Asc a (splitL n a l ++ D)
  | 0, a, l, D, h, _, hD => by
    obtain rfl : l = [] := List.length_eq_zero_iff.1 (by omega)
    exact hD
  | k + 1, a, l, D, h, ha, hD => by
    by_cases hl : l = []
    · subst hl; exact hD
    · have hp := List.length_pos_iff.2 hl
      rw [splitL_step hn a l hl]
      have ht : (l.take n).length = min n l.length := by simp
      refine ⟨Nat.le_refl _, fun e => ?_, by rw [ht]; omega, ?_⟩
      · rw [e] at ht; simp at ht; omega
      · rw [ht]
        by_cases hle : n ≤ l.length
        · rw [Nat.min_eq_left hle]
          refine splitL_asc hn k _ _ _ (by simp; omega) (by simp; omega) ?_
          rw [List.length_drop, show a + n + (l.length - n) = a + l.length by omega]
          exact hD
        · rw [List.drop_eq_nil_of_le (by omega), splitL_nil, Nat.min_eq_right (by omega)]
          exact hD
theorem recs_asc {n : Nat} (hn : 0 < n) : ∀ {R : List (Nat × List UInt8)} {lo : Nat}, Sep lo R → Asc lo (recs n R)
  | [], _, _ => trivial
  | (a, l) :: R, lo, h => by
    obtain ⟨h1, h2, h3, h4⟩ := h
    show Asc lo (splitL n a l ++ recs n R)
    exact (splitL_asc hn l.length a l _ (Nat.le_refl _) h3 ((recs_asc hn h4).mono (by omega))).mono h1
/-- bytes behind all that there is -/
theorem put_behind {d : Nat → Bool} {v : Nat → UInt8} {a : Nat} {l : List UInt8} (h : ∀ c ∈ cellsOf d v, c.addr < a) (hl : l ≠ []) (ha : a + l.length ≤ 65536) :
    cellsOf (imgPut d v a l).1 (imgPut d v a l).2 = cellsOf d v ++ cellsF a l ∧ putCode d a l.length = 0 := by
  have hp := List.length_pos_iff.2 hl
  have hf : find02 (a : Int) (cellsOf d v) = (cellsOf d v).length := by
    have := find02_app (a := (a : Int)) (l2 := []) (fun c hc => by cases hc) (cellsOf d v) (fun c hc => by have := h c hc; omega)
    rwa [List.append_nil] at this
  have e := put_match d v a l
  unfold put02 at e
  rw [hf, if_neg (by omega), if_neg (by omega), if_neg hl, if_neg (by
    rintro ⟨c, hc, _⟩
    rw [List.getElem?_eq_none (Nat.le_refl _)] at hc
    cases hc), List.take_length, List.drop_length, List.append_nil, Int.toNat_natCast] at e
  exact ⟨(congrArg Prod.fst e).symm, (congrArg Prod.snd e).symm⟩
theorem cellsF_lt : ∀ (l : List UInt8) (a : Nat), ∀ c ∈ cellsF a l, c.addr < a + l.length
  | [], _, c, h => by cases h
  | b :: l, a, c, h => by
    rcases List.mem_cons.1 h with rfl | h
    · show a < a + (l.length + 1); omega
    · have := cellsF_lt l (a + 1) c h
      rw [List.length_cons]; omega
/-- images put together of runs in ascending order -/
def putAll (D : List (Nat × List UInt8)) : (Nat → Bool) × (Nat → UInt8) := D.foldl (fun s r => imgPut s.1 s.2 r.1 r.2) (fun _ => false, fun _ => 0)
theorem putAll_snoc (D : List (Nat × List UInt8)) (r : Nat × List UInt8) : putAll (D ++ [r]) = imgPut (putAll D).1 (putAll D).2 r.1 r.2 := by
  unfold putAll
  rw [List.foldl_append]; rfl
theorem cellsOf_none (v : Nat → UInt8) : cellsOf (fun _ => false) v = [] := segC_none _ _ (fun _ _ _ => rfl)
theorem putAll_asc : ∀ (D E : List (Nat × List UInt8)) (lo : Nat), cellsOf (putAll E).1 (putAll E).2 = cellsR E → (∀ c ∈ cellsR E, c.addr < lo) → Asc lo D →
    cellsOf (putAll (E ++ D)).1 (putAll (E ++ D)).2 = cellsR (E ++ D) ∧ ∀ k r, D[k]? = some r → putCode (putAll (E ++ D.take k)).1 r.1 r.2.length = 0
  | [], E, lo, h1, h2, _ => by rw [List.append_nil]; exact ⟨h1, fun k r hk => by simp at hk⟩
  | (a, l) :: D, E, lo, h1, h2, h => by
    obtain ⟨g1, g2, g3, g4⟩ := h
    obtain ⟨p1, p2⟩ := put_behind (d := (putAll E).1) (v := (putAll E).2) (a := a) (l := l) (fun c hc => by rw [h1] at hc; have := h2 c hc; omega) g2 g3
    have hc : cellsR (E ++ [(a, l)]) = cellsR E ++ cellsF a l := by simp [cellsR]
    obtain ⟨q1, q2⟩ := putAll_asc D (E ++ [(a, l)]) (a + l.length) (by rw [putAll_snoc, p1, h1, hc]) (fun c hx => by
      rw [hc] at hx
      rcases List.mem_append.1 hx with hx | hx
      · have := h2 c hx; omega
      · exact cellsF_lt l a c hx) g4
    rw [List.append_assoc] at q1
    refine ⟨q1, fun k r hk => ?_⟩
    cases k with
    | zero =>
      injection hk with hk
      subst hk
      rw [List.take_zero, List.append_nil]
      exact p2
    | succ k =>
      have := q2 k r hk
      rw [List.append_assoc] at this
      exact this
/-- the records of an image, put one after the other, give the image again -/
theorem putAll_recs (d : Nat → Bool) (v : Nat → UInt8) {n : Nat} (hn : 0 < n) : cellsOf (putAll (recs n (runsOf d v))).1 (putAll (recs n (runsOf d v))).2 = cellsOf d v ∧
    ∀ k r, (recs n (runsOf d v))[k]? = some r → putCode (putAll ((recs n (runsOf d v)).take k)).1 r.1 r.2.length = 0 := by
  obtain ⟨h1, h2⟩ := putAll_asc (recs n (runsOf d v)) [] 0 (cellsOf_none _) (fun c hc => by cases hc) (recs_asc hn (runs_sep d v))
  rw [List.nil_append] at h1
  exact ⟨by rw [h1, recs_cells hn, runs_cells], h2⟩
theorem asc_pairs : ∀ {D : List (Nat × List UInt8)} {lo : Nat}, Asc lo D → ∀ (k : Nat) (r : Nat × List UInt8), D[k]? = some r → lo ≤ r.1 ∧ ∀ (j : Nat) (q : Nat × List UInt8), j < k → D[j]? = some q → q.1 < r.1
  | [], _, _, k, r, hk => by simp at hk
  | (a, l) :: D, lo, h, k, r, hk => by
    obtain ⟨g1, g2, g3, g4⟩ := h
    cases k with
    | zero =>
      injection hk with hk
      subst hk
      exact ⟨g1, fun j q hj => absurd hj (Nat.not_lt_zero _)⟩
    | succ k =>
      obtain ⟨i1, i2⟩ := asc_pairs g4 k r hk
      have := List.length_pos_iff.2 g2
      refine ⟨by omega, fun j q hj hq => ?_⟩
      cases j with
      | zero =>
        injection hq with hq
        subst hq
        show a < _; omega
      | succ j => exact i2 j q (by omega) hq
theorem same_runs {d d' : Nat → Bool} {v v' : Nat → UInt8} : runsOf d v = runsOf d' v' ↔ cellsOf d v = cellsOf d' v' :=
  ⟨fun h => by rw [← runs_cells, h, runs_cells], fun h => by rw [← runs02_of, h, runs02_of]⟩
end Go.Proofs.YtcfjcoockklkeaaGreatDoor

/-
  PLAIN: the parts of a run, one by one. Conditions: none.
-/
namespace Go.Proofs.YtcfjcoockklkeaaGreatDoor

theorem splitL_get {n : Nat} (hn : 0 < n) : ∀ (k a : Nat) (l : List UInt8), k * n < l.length → (splitL n a l)[k]? = some (a + k * n, (l.drop (k * n)).take n)
  | 0, a, l, h => by
    have hl : l ≠ [] := fun e => by subst e; simp at h
    rw [splitL_step hn a l hl]
    simp
  | k + 1, a, l, h => by
    have hl : l ≠ [] := fun e => by subst e; simp at h
    rw [Nat.succ_mul] at h
    rw [splitL_step hn a l hl, List.getElem?_cons_succ, splitL_get hn k (a + n) (l.drop n) (by rw [List.length_drop]; omega), List.drop_drop, Nat.succ_mul]
    rw [show a + n + k * n = a + (k * n + n) by omega, show n + k * n = k * n + n by omega]
theorem splitL_none {n : Nat} (hn : 0 < n) : ∀ (k a : Nat) (l : List UInt8), l.length ≤ k * n → (splitL n a l)[k]? = none
  | 0, a, l, h => by
    obtain rfl : l = [] := List.length_eq_zero_iff.1 (by omega)
    rfl
  | k + 1, a, l, h => by
    by_cases hl : l = []
    · subst hl; simp [splitL_nil]
    · rw [Nat.succ_mul] at h
      rw [splitL_step hn a l hl, List.getElem?_cons_succ]
      exact splitL_none hn k _ _ (by rw [List.length_drop]; omega)
theorem splitL_more {n : Nat} (hn : 0 < n) {k a : Nat} {l : List UInt8} (h : k * n < l.length) : (splitL n a l).take (k + 1) = (splitL n a l).take k ++ [(a + k * n, (l.drop (k * n)).take n)] := by
  rw [List.take_add_one, splitL_get hn k a l h]; rfl
theorem splitL_all {n : Nat} (hn : 0 < n) {a : Nat} {l : List UInt8} : (splitL n a l).take ((l.length + n - 1) / n) = splitL n a l := by
  refine List.take_of_length_le ?_
  rcases Nat.lt_or_ge ((l.length + n - 1) / n) (splitL n a l).length with h | h
  · have h1 := List.getElem?_eq_getElem h
    have hm : l.length ≤ (l.length + n - 1) / n * n := by
      have h2 := Nat.div_add_mod (l.length + n - 1) n
      have h3 := Nat.mod_lt (l.length + n - 1) hn
      rw [Nat.mul_comm] at h2
      omega
    rw [splitL_none hn _ a l hm] at h1
    cases h1
  · exact h
theorem splitL_le {n : Nat} (hn : 0 < n) (a : Nat) (l : List UInt8) : (splitL n a l).length ≤ l.length := by
  rcases Nat.lt_or_ge l.length (splitL n a l).length with h | h
  · have h1 := List.getElem?_eq_getElem h
    rw [splitL_none hn l.length a l (Nat.le_mul_of_pos_right _ hn)] at h1
    cases h1
  · exact h
end Go.Proofs.YtcfjcoockklkeaaGreatDoor

/-
  PLAIN: reading HEX texts line by line; reading inverts writing. Conditions: none.
-/
namespace Go.Proofs.YtcfjcoockklkeaaGreatDoor

/-- the lines of a text -/
def splitNL : List UInt8 → List (List UInt8)
  | [] => [[]]
  | c :: r => if c = 10 then [] :: splitNL r else match splitNL r with | [] => [[c]] | x :: L => (c :: x) :: L
theorem splitNL_ne : ∀ s, splitNL s ≠ []
  | [] => by simp [splitNL]
  | c :: r => by
    unfold splitNL
    split
    · simp
    · split <;> simp
theorem splitNL_line : ∀ (x r : List UInt8), (∀ c ∈ x, c ≠ 10) → splitNL (x ++ 10 :: r) = x :: splitNL r
  | [], r, _ => by show splitNL (10 :: r) = _; rw [splitNL, if_pos rfl]
  | c :: x, r, h => by
    show splitNL (c :: (x ++ 10 :: r)) = _
    rw [splitNL, if_neg (h c (by simp)), splitNL_line x r (fun z hz => h z (by simp [hz]))]
theorem splitNL_last : ∀ (x : List UInt8), (∀ c ∈ x, c ≠ 10) → splitNL x = [x]
  | [], _ => rfl
  | c :: x, h => by rw [splitNL, if_neg (h c (by simp)), splitNL_last x (fun z hz => h z (by simp [hz]))]
theorem splitNL_join : ∀ (L : List (List UInt8)) (r : List UInt8), (∀ x ∈ L, ∀ c ∈ x, c ≠ 10) → splitNL (joinL L ++ r) = L ++ splitNL r
  | [], r, _ => rfl
  | x :: L, r, h => by
    rw [joinL_cons, List.append_assoc]
    show splitNL (x ++ 10 :: (joinL L ++ r)) = _
    rw [splitNL_line x _ (h x (by simp)), splitNL_join L r (fun z hz => h z (by simp [hz]))]; rfl
def isBl (c : UInt8) : Bool := c == 32 || c == 9
def blankL (s : List UInt8) : Bool := s.all isBl
def trimCR (s : List UInt8) : List UInt8 := if s.getLast? = some 13 then s.dropLast else s
abbrev ImgS := (Nat → Bool) × (Nat → UInt8)
/-- one line: the code, the image and whether the End has come -/
def recH (st : ImgS × Bool) (r : RecV) : Nat × (ImgS × Bool) :=
  if r.t = 0 then (putCode st.1.1 r.a r.l.length, (imgPut st.1.1 st.1.2 r.a r.l, st.2)) else if r.t = 1 then (if r.l = [] then (0, (st.1, true)) else (6, st)) else (7, st)
def stepH (st : ImgS × Bool) (s : List UInt8) : Nat × (ImgS × Bool) :=
  if blankL (trimCR s) then (0, st) else if st.2 then (9, st) else if (parseH (trimCR s)).1 ≠ 0 then ((parseH (trimCR s)).1, st) else recH st (parseH (trimCR s)).2
/-- all lines: the line and the code of the fault, and the image -/
def runH : Nat → ImgS × Bool → List (List UInt8) → (Nat × Nat) × (ImgS × Bool)
  | _, st, [] => (if st.2 then (0, 0) else (0, 8), st)
  | i, st, s :: r => if (stepH st s).1 = 0 then runH (i + 1) (stepH st s).2 r else ((i + 1, (stepH st s).1), st)
def emptyS : ImgS × Bool := ((fun _ => false, fun _ => 0), false)
def readH (text : List UInt8) : (Nat × Nat) × (ImgS × Bool) := runH 0 emptyS (splitNL text)
theorem runH_good (i : Nat) (st st' : ImgS × Bool) (s : List UInt8) (r : List (List UInt8)) (h : stepH st s = (0, st')) : runH i st (s :: r) = runH (i + 1) st' r := by
  rw [runH, h, if_pos rfl]
theorem recLine_trim (t a : Nat) (l : List UInt8) : trimCR (recLine t a l) = recLine t a l := by
  unfold trimCR
  rw [if_neg]
  intro e
  have hm := List.mem_of_getLast? e
  rcases List.mem_cons.1 hm with h | h
  · cases h
  · have := byteTxt_ge h
    simp at this
theorem recLine_full (t a : Nat) (l : List UInt8) : blankL (recLine t a l) = false := rfl
theorem step_rec {st : ImgS × Bool} {a : Nat} {l : List UInt8} (hs : st.2 = false) (ha : a < 65536) (hl : l.length ≤ 255) : stepH st (recLine 0 a l) = (putCode st.1.1 a l.length, (imgPut st.1.1 st.1.2 a l, false)) := by
  unfold stepH
  rw [recLine_trim, recLine_full, parse_line ha hl, hs]
  simp [recH, hs]
theorem parse_end : parseH endLine = (0, ⟨1, 0, []⟩) := by rw [← endLine_is]; exact parse_lineT (by omega) (by omega) (by simp)
theorem step_end {st : ImgS × Bool} (hs : st.2 = false) : stepH st endLine = (0, (st.1, true)) := by
  unfold stepH
  rw [show trimCR endLine = endLine by rw [← endLine_is]; exact recLine_trim _ _ _, show blankL endLine = false from rfl, parse_end, hs]
  simp [recH]
theorem step_blank {st : ImgS × Bool} {s : List UInt8} (h : blankL (trimCR s) = true) : stepH st s = (0, st) := by
  unfold stepH
  rw [if_pos h]
/-- lines of records that can be put -/
theorem runH_recs : ∀ (D : List (Nat × List UInt8)) (i : Nat) (s : ImgS) (r : List (List UInt8)), (∀ x ∈ D, x.2.length ≤ 255 ∧ x.1 < 65536) →
    (∀ k x, D[k]? = some x → putCode ((D.take k).foldl (fun s r => imgPut s.1 s.2 r.1 r.2) s).1 x.1 x.2.length = 0) →
    runH i (s, false) (D.map (fun r => recLine 0 r.1 r.2) ++ r) = runH (i + D.length) (D.foldl (fun s r => imgPut s.1 s.2 r.1 r.2) s, false) r
  | [], i, s, r, _, _ => rfl
  | (a, l) :: D, i, s, r, h1, h2 => by
    have g1 := h1 (a, l) (by simp)
    have g2 : putCode s.1 a l.length = 0 := h2 0 (a, l) rfl
    show runH i (s, false) (recLine 0 a l :: (D.map (fun r => recLine 0 r.1 r.2) ++ r)) = _
    rw [runH_good i (s, false) (imgPut s.1 s.2 a l, false) _ _ ((step_rec rfl g1.2 g1.1).trans (by rw [show putCode (s, false).1.1 a l.length = 0 from g2]))]
    rw [runH_recs D (i + 1) _ r (fun x hx => h1 x (by simp [hx])) (fun k x hk => h2 (k + 1) x hk), show i + 1 + D.length = i + ((a, l) :: D).length by simp; omega]; rfl
theorem runH_blanks : ∀ (L : List (List UInt8)) (i : Nat) (st : ImgS × Bool), st.2 = true → (∀ s ∈ L, blankL (trimCR s) = true) → runH i st L = ((0, 0), st)
  | [], i, st, hs, _ => by rw [runH, hs]; rfl
  | s :: L, i, st, hs, h => by
    rw [runH_good i st st s L (step_blank (h s (by simp))), runH_blanks L _ st hs (fun x hx => h x (by simp [hx]))]
/-- what reading a written text gives: no fault, and the same cells -/
theorem read_text (d : Nat → Bool) (v : Nat → UInt8) {n : Nat} (hn : 0 < n) (hn2 : n ≤ 255) (more : List UInt8) (hm : ∀ s ∈ splitNL more, blankL (trimCR s) = true) :
    readH (textOf n (runsOf d v) ++ more) = ((0, 0), (putAll (recs n (runsOf d v)), true)) := by
  obtain ⟨_, h2⟩ := putAll_recs d v hn
  unfold putAll at h2
  unfold readH textOf
  rw [splitNL_join _ _ (linesOf_no10 n _), linesOf, List.append_assoc]
  show runH 0 ((fun _ => false, fun _ => 0), false) _ = _
  rw [runH_recs (recs n (runsOf d v)) 0 _ _ (fun x hx => by
    obtain ⟨x1, x2, x3⟩ := recs_mem hn (runs_sep d v) x hx
    have := List.length_pos_iff.2 x1
    exact ⟨by omega, by omega⟩) h2]
  show runH _ (putAll _, false) (endLine :: splitNL more) = _
  rw [runH_good _ _ _ _ _ (step_end rfl), runH_blanks _ _ _ rfl hm]
/-- without the End -/
theorem read_open (d : Nat → Bool) (v : Nat → UInt8) {n : Nat} (hn : 0 < n) (hn2 : n ≤ 255) :
    readH (joinL ((recs n (runsOf d v)).map fun r => recLine 0 r.1 r.2)) = ((0, 8), (putAll (recs n (runsOf d v)), false)) := by
  obtain ⟨_, h2⟩ := putAll_recs d v hn
  unfold putAll at h2
  unfold readH
  have := splitNL_join ((recs n (runsOf d v)).map fun r => recLine 0 r.1 r.2) [] (fun x hx => linesOf_no10 n (runsOf d v) x (by unfold linesOf; exact List.mem_append_left _ hx))
  rw [List.append_nil] at this
  rw [this]
  show runH 0 ((fun _ => false, fun _ => 0), false) _ = _
  rw [runH_recs (recs n (runsOf d v)) 0 _ _ (fun x hx => by
    obtain ⟨x1, x2, x3⟩ := recs_mem hn (runs_sep d v) x hx
    have := List.length_pos_iff.2 x1
    exact ⟨by omega, by omega⟩) h2]
  show runH _ (putAll _, false) [[]] = _
  rw [runH_good _ _ _ _ _ (step_blank rfl)]; rfl
/-- a line behind the End that is not blank -/
theorem read_after (d : Nat → Bool) (v : Nat → UInt8) {n : Nat} (hn : 0 < n) (hn2 : n ≤ 255) (more : List UInt8) (s : List UInt8) (r : List (List UInt8)) (hm : splitNL more = s :: r) (hs : blankL (trimCR s) = false) :
    readH (textOf n (runsOf d v) ++ more) = (((linesOf n (runsOf d v)).length + 1, 9), (putAll (recs n (runsOf d v)), true)) := by
  obtain ⟨_, h2⟩ := putAll_recs d v hn
  unfold putAll at h2
  unfold readH textOf
  rw [splitNL_join _ _ (linesOf_no10 n _), linesOf, List.append_assoc]
  show runH 0 ((fun _ => false, fun _ => 0), false) _ = _
  rw [runH_recs (recs n (runsOf d v)) 0 _ _ (fun x hx => by
    obtain ⟨x1, x2, x3⟩ := recs_mem hn (runs_sep d v) x hx
    have := List.length_pos_iff.2 x1
    exact ⟨by omega, by omega⟩) h2]
  show runH _ (putAll _, false) (endLine :: splitNL more) = _
  rw [runH_good _ _ _ _ _ (step_end rfl), hm, runH]
  have e : stepH (putAll (recs n (runsOf d v)), true) s = (9, (putAll (recs n (runsOf d v)), true)) := by
    unfold stepH
    rw [if_neg (by rw [hs]; simp), if_pos rfl]
  rw [e, if_neg (by simp)]
  simp
end Go.Proofs.YtcfjcoockklkeaaGreatDoor

/-
  PLAIN: the order of the lines of a HEX text does not matter. Conditions: none.
-/
namespace Go.Proofs.YtcfjcoockklkeaaGreatDoor

/-- reading the lines L leads from st to st' without a fault -/
def Goes (st : ImgS × Bool) (L : List (List UInt8)) (st' : ImgS × Bool) : Prop := ∀ i r, runH i st (L ++ r) = runH (i + L.length) st' r
theorem Goes.nil (st : ImgS × Bool) : Goes st [] st := fun _ _ => rfl
theorem Goes.trans {a b c : ImgS × Bool} {L M : List (List UInt8)} (h : Goes a L b) (k : Goes b M c) : Goes a (L ++ M) c := fun i r => by
  rw [List.append_assoc, h, k, List.length_append, Nat.add_assoc]
theorem Goes.one {a b : ImgS × Bool} {s : List UInt8} (h : stepH a s = (0, b)) : Goes a [s] b := fun i r => runH_good i a b s r h
theorem Goes.ends {a b : ImgS × Bool} {L : List (List UInt8)} (h : Goes a L b) (hb : b.2 = true) (i : Nat) : runH i a L = ((0, 0), b) := by
  have := h i []
  rw [List.append_nil] at this
  rw [this, runH, hb]; rfl

theorem segC_has {d : Nat → Bool} {v : Nat → UInt8} {x : Nat} (hd : d x = true) : ∀ n a, a ≤ x → x < a + n → (⟨x, v x⟩ : CellV) ∈ segC d v a n
  | 0, a, h1, h2 => by omega
  | n + 1, a, h1, h2 => by
    rw [segC]
    by_cases e : x = a
    · subst e; rw [if_pos hd]; simp
    · exact List.mem_append_right _ (segC_has hd n (a + 1) (by omega) (by omega))
theorem cellsF_mem : ∀ (l : List UInt8) (a : Nat) (c : CellV), c ∈ cellsF a l ↔ ∃ i, l[i]? = some c.byte ∧ c.addr = a + i
  | [], a, c => by simp [cellsF]
  | b :: l, a, c => by
    rw [cellsF, List.mem_cons, cellsF_mem l (a + 1) c]
    constructor
    · rintro (rfl | ⟨i, h1, h2⟩)
      · exact ⟨0, rfl, rfl⟩
      · exact ⟨i + 1, h1, by omega⟩
    · rintro ⟨i, h1, h2⟩
      cases i with
      | zero =>
        left
        obtain ⟨x, y⟩ := c
        injection h1 with h1
        subst h1
        have h2 : x = a := h2
        subst h2; rfl
      | succ i => exact .inr ⟨i, h1, by omega⟩
/-- a run that says what d and v say -/
def Says (d : Nat → Bool) (v : Nat → UInt8) (r : Nat × List UInt8) : Prop := r.1 + r.2.length ≤ 65536 ∧ r.2 ≠ [] ∧ ∀ i b, r.2[i]? = some b → d (r.1 + i) = true ∧ b = v (r.1 + i)
def Dis (r q : Nat × List UInt8) : Prop := r.1 + r.2.length ≤ q.1 ∨ q.1 + q.2.length ≤ r.1
def inRun (r : Nat × List UInt8) (x : Nat) : Prop := r.1 ≤ x ∧ x < r.1 + r.2.length
structure InvP (v : Nat → UInt8) (E : List (Nat × List UInt8)) (S : ImgS) : Prop where
  dom : ∀ x, S.1 x = true ↔ ∃ r ∈ E, inRun r x
  val : ∀ x, S.1 x = true → S.2 x = v x
theorem InvP.start (v : Nat → UInt8) : InvP v [] (fun _ => false, fun _ => 0) := ⟨fun x => by simp, fun x h => by cases h⟩
theorem InvP.put {d : Nat → Bool} {v : Nat → UInt8} {E : List (Nat × List UInt8)} {S : ImgS} {r : Nat × List UInt8} (h : InvP v E S) (hr : Says d v r) (hd : ∀ q ∈ E, Dis q r) :
    putCode S.1 r.1 r.2.length = 0 ∧ InvP v (E ++ [r]) (imgPut S.1 S.2 r.1 r.2) := by
  obtain ⟨a, l⟩ := r
  obtain ⟨h1, h2, h3⟩ := hr
  have hp := List.length_pos_iff.2 h2
  have h1 : a + l.length ≤ 65536 := h1
  have hno : ∀ x, a ≤ x → x < a + l.length → S.1 x = false := fun x hx1 hx2 => by
    cases e : S.1 x with
    | false => rfl
    | true =>
      obtain ⟨q, hq, g1, g2⟩ := (h.dom x).1 e
      have hq2 := hd q hq
      unfold Dis at hq2
      have hq2 : q.1 + q.2.length ≤ a ∨ a + l.length ≤ q.1 := hq2
      omega
  have hc : putCode S.1 (a : Int) l.length = 0 := by
    obtain ⟨g1, g2, g3, g4⟩ := nextS_spec S.1 true a (by omega)
    unfold putCode
    rw [if_neg (by omega), if_neg (by omega), if_neg]
    intro hx
    have hx : nextS S.1 true a < a + l.length := hx
    have e := g4 (by omega)
    rw [hno _ g1 hx] at e
    cases e
  refine ⟨hc, ?_⟩
  have e : imgPut S.1 S.2 (a : Int) l = (span S.1 a l.length, over S.2 a l) := by
    unfold imgPut
    rw [hc, if_pos rfl]; rfl
  show InvP v _ (imgPut S.1 S.2 (a : Int) l)
  rw [e]
  refine ⟨fun x => ?_, fun x hx => ?_⟩
  · show (S.1 x || (decide (a ≤ x) && decide (x < a + l.length))) = true ↔ _
    rw [Bool.or_eq_true, Bool.and_eq_true, decide_eq_true_iff, decide_eq_true_iff, h.dom x]
    simp [inRun, or_comm, or_and_right, exists_or]
  · by_cases hin : a ≤ x ∧ x < a + l.length
    · have hlt : x - a < l.length := by omega
      show over S.2 a l x = _
      have h4 := (h3 (x - a) _ (List.getElem?_eq_getElem hlt)).2
      rw [show (a, l).1 + (x - a) = x from by show a + (x - a) = x; omega] at h4
      unfold over
      rw [if_pos hin.1, List.getD_eq_getElem?_getD, List.getElem?_eq_getElem hlt]
      exact h4
    · show over S.2 a l x = _
      have hx : (S.1 x || (decide (a ≤ x) && decide (x < a + l.length))) = true := hx
      have hf : (decide (a ≤ x) && decide (x < a + l.length)) = false := by
        cases h9 : (decide (a ≤ x) && decide (x < a + l.length)) with
        | false => rfl
        | true =>
          rw [Bool.and_eq_true, decide_eq_true_iff, decide_eq_true_iff] at h9
          exact absurd h9 hin
      rw [hf, Bool.or_false] at hx
      rw [over_out (by omega)]
      exact h.val x hx
theorem InvP.all {d : Nat → Bool} {v : Nat → UInt8} : ∀ (F E : List (Nat × List UInt8)) (S : ImgS), InvP v E S → (∀ r ∈ F, Says d v r) → (E ++ F).Pairwise Dis →
    (∀ k r, F[k]? = some r → putCode ((F.take k).foldl (fun s r => imgPut s.1 s.2 r.1 r.2) S).1 r.1 r.2.length = 0) ∧ InvP v (E ++ F) (F.foldl (fun s r => imgPut s.1 s.2 r.1 r.2) S)
  | [], E, S, h, _, _ => ⟨fun k r hk => by simp at hk, by rw [List.append_nil]; exact h⟩
  | r :: F, E, S, h, hs, hp => by
    have hd : ∀ q ∈ E, Dis q r := fun q hq => (List.pairwise_append.1 hp).2.2 q hq r (by simp)
    obtain ⟨h1, h2⟩ := h.put (hs r (by simp)) hd
    obtain ⟨h3, h4⟩ := InvP.all F (E ++ [r]) _ h2 (fun q hq => hs q (by simp [hq])) (by rw [List.append_assoc]; exact hp)
    rw [List.append_assoc] at h4
    refine ⟨fun k q hk => ?_, h4⟩
    cases k with
    | zero => injection hk with hk; subst hk; exact h1
    | succ k => exact h3 k q hk
theorem asc_pair : ∀ {D : List (Nat × List UInt8)} {lo : Nat}, Asc lo D → (∀ r ∈ D, lo ≤ r.1) ∧ D.Pairwise Dis
  | [], _, _ => ⟨fun r hr => (by cases hr), List.Pairwise.nil⟩
  | (a, l) :: D, lo, h => by
    obtain ⟨g1, g2, g3, g4⟩ := h
    obtain ⟨i1, i2⟩ := asc_pair g4
    refine ⟨fun r hr => ?_, List.Pairwise.cons (fun r hr => .inl (i1 r hr)) i2⟩
    rcases List.mem_cons.1 hr with rfl | hr
    · exact g1
    · have := i1 r hr; omega
theorem recs_says (d : Nat → Bool) (v : Nat → UInt8) {n : Nat} (hn : 0 < n) : ∀ r ∈ recs n (runsOf d v), Says d v r := by
  intro r hr
  obtain ⟨h1, h2, h3⟩ := recs_mem hn (runs_sep d v) r hr
  refine ⟨h3, h1, fun i b hb => ?_⟩
  have hm : (⟨r.1 + i, b⟩ : CellV) ∈ cellsR (recs n (runsOf d v)) := List.mem_flatMap.2 ⟨r, hr, (cellsF_mem _ _ _).2 ⟨i, hb, rfl⟩⟩
  rw [recs_cells hn, runs_cells] at hm
  exact (segC_mem _ _ hm).2.2
theorem recs_cover (d : Nat → Bool) (v : Nat → UInt8) {n : Nat} (hn : 0 < n) {x : Nat} (hx : x < 65536) (hd : d x = true) : ∃ r ∈ recs n (runsOf d v), inRun r x := by
  have hm : (⟨x, v x⟩ : CellV) ∈ cellsOf d v := segC_has hd _ _ (Nat.zero_le _) (by omega)
  rw [← runs_cells, ← recs_cells hn] at hm
  obtain ⟨r, hr, hc⟩ := List.mem_flatMap.1 hm
  obtain ⟨i, h1, h2⟩ := (cellsF_mem _ _ _).1 hc
  have := (List.getElem?_eq_some_iff.1 h1).1
  have h2 : x = r.1 + i := h2
  exact ⟨r, hr, by omega, by omega⟩
/-- the records of an image in whatever order: no fault, and the same cells -/
theorem put_perm (d : Nat → Bool) (v : Nat → UInt8) {n : Nat} (hn : 0 < n) {F : List (Nat × List UInt8)} (hF : F.Perm (recs n (runsOf d v))) :
    (∀ k r, F[k]? = some r → putCode ((F.take k).foldl (fun s r => imgPut s.1 s.2 r.1 r.2) (fun _ => false, fun _ => 0)).1 r.1 r.2.length = 0) ∧ cellsOf (putAll F).1 (putAll F).2 = cellsOf d v := by
  have hsym : ∀ {r q : Nat × List UInt8}, Dis r q → Dis q r := fun h => h.symm
  obtain ⟨h1, h2⟩ := InvP.all F [] _ (InvP.start v) (fun r hr => recs_says d v hn r (hF.mem_iff.1 hr)) (by
    rw [List.nil_append]
    exact (hF.pairwise_iff hsym).2 (asc_pair (recs_asc hn (runs_sep d v))).2)
  refine ⟨h1, ?_⟩
  rw [List.nil_append] at h2
  unfold putAll cellsOf
  refine segC_congr _ _ (fun x _ hx => ?_)
  have hx : x < 65536 := by omega
  have e1 := h2.dom x
  refine ⟨?_, h2.val x⟩
  cases hd : d x with
  | true =>
    obtain ⟨r, hr, hin⟩ := recs_cover d v hn hx hd
    exact e1.2 ⟨r, hF.mem_iff.2 hr, hin⟩
  | false =>
    cases e : (F.foldl (fun s r => imgPut s.1 s.2 r.1 r.2) ((fun _ => false), fun _ => 0) : ImgS).1 x with
    | false => rfl
    | true =>
      obtain ⟨r, hr, g1, g2⟩ := e1.1 e
      have hs := recs_says d v hn r (hF.mem_iff.1 hr)
      have hlt : x - r.1 < r.2.length := by omega
      have := (hs.2.2 _ _ (List.getElem?_eq_getElem hlt)).1
      rw [show r.1 + (x - r.1) = x by omega, hd] at this
      cases this

def lowU (c : UInt8) : UInt8 := if 65 ≤ c.toNat ∧ c.toNat ≤ 90 then c + 32 else c
theorem hexV_low (c : UInt8) : hexV (lowU c) = hexV c := by
  have hc := c.toNat_lt
  unfold lowU
  split
  · rename_i h
    have e : (c + 32).toNat = c.toNat + 32 := by
      rw [UInt8.toNat_add]
      show (c.toNat + 32) % 256 = _
      omega
    unfold hexV
    rw [e, if_neg (by omega), if_neg (show ¬ (48 ≤ c.toNat ∧ c.toNat ≤ 57) by omega), if_neg (show ¬ (97 ≤ c.toNat ∧ c.toNat ≤ 102) by omega)]
    by_cases h2 : c.toNat ≤ 70
    · rw [if_pos (by omega), if_pos (by omega)]; omega
    · rw [if_neg (by omega), if_neg (by omega), if_neg (by omega)]
  · rfl
theorem bytesH_low : ∀ s : List UInt8, bytesH (s.map lowU) = bytesH s
  | [] => rfl
  | [_] => rfl
  | a :: b :: r => by
    show (if 15 < hexV (lowU a) ∨ 15 < hexV (lowU b) then none else (bytesH (r.map lowU)).map (UInt8.ofNat (16 * hexV (lowU a) + hexV (lowU b)) :: ·)) = _
    rw [hexV_low, hexV_low, bytesH_low r]; rfl
theorem parseH_low (r : List UInt8) : parseH ((58 :: r).map lowU) = parseH (58 :: r) := by
  show parseH (58 :: r.map lowU) = _
  rw [parseH_colon, parseH_colon, bytesH_low]
/-- a line of a record as it may be written: small letters, a byte 13, a blank line behind -/
def mess (q : Bool) (x : List UInt8) : List (List UInt8) := if q then [x.map lowU ++ [13], [32, 9]] else [x]
theorem trim_app (s : List UInt8) : trimCR (s ++ [13]) = s := by
  unfold trimCR
  rw [if_pos (by simp), List.dropLast_concat]
theorem step_low {st : ImgS × Bool} {r : List UInt8} (h : trimCR (58 :: r) = 58 :: r) : stepH st ((58 :: r).map lowU ++ [13]) = stepH st (58 :: r) := by
  unfold stepH
  rw [trim_app, h, parseH_low]; rfl
theorem goes_mess {st st' : ImgS × Bool} {r : List UInt8} (q : Bool) (ht : trimCR (58 :: r) = 58 :: r) (h : stepH st (58 :: r) = (0, st')) : Goes st (mess q (58 :: r)) st' := by
  cases q with
  | false => exact Goes.one h
  | true => exact (Goes.one ((step_low ht).trans h)).trans (M := [[32, 9]]) (Goes.one (step_blank rfl))
theorem goes_recs : ∀ (F : List (Bool × (Nat × List UInt8))) (s : ImgS), (∀ x ∈ F, x.2.2.length ≤ 255 ∧ x.2.1 < 65536) →
    (∀ k r, (F.map Prod.snd)[k]? = some r → putCode (((F.map Prod.snd).take k).foldl (fun s r => imgPut s.1 s.2 r.1 r.2) s).1 r.1 r.2.length = 0) →
    Goes (s, false) (F.flatMap fun x => mess x.1 (recLine 0 x.2.1 x.2.2)) ((F.map Prod.snd).foldl (fun s r => imgPut s.1 s.2 r.1 r.2) s, false)
  | [], s, _, _ => Goes.nil _
  | (q, a, l) :: F, s, h1, h2 => by
    have g1 := h1 (q, a, l) (by simp)
    have g2 : putCode s.1 a l.length = 0 := h2 0 (a, l) rfl
    rw [List.flatMap_cons]
    refine Goes.trans (b := (imgPut s.1 s.2 a l, false)) ?_ (goes_recs F _ (fun x hx => h1 x (by simp [hx])) (fun k r hk => h2 (k + 1) r hk))
    exact goes_mess q (recLine_trim 0 a l) ((step_rec rfl g1.2 g1.1).trans (by rw [show putCode (s, false).1.1 a l.length = 0 from g2]))
/-- the lines in whatever order, as they may be written, then the End and a blank line -/
theorem read_messed (d : Nat → Bool) (v : Nat → UInt8) {n : Nat} (hn : 0 < n) (hn2 : n ≤ 255) (F : List (Bool × (Nat × List UInt8))) (hF : (F.map Prod.snd).Perm (recs n (runsOf d v))) (q1 q2 : Bool) (i : Nat) :
    ∃ S : ImgS, runH i emptyS ((F.flatMap fun x => mess x.1 (recLine 0 x.2.1 x.2.2)) ++ mess q1 endLine ++ mess q2 []) = ((0, 0), (S, true)) ∧ cellsOf S.1 S.2 = cellsOf d v := by
  obtain ⟨h1, h2⟩ := put_perm d v hn hF
  have g1 := goes_recs F ((fun _ => false), fun _ => 0) (fun x hx => by
    have hx2 : x.2 ∈ recs n (runsOf d v) := hF.mem_iff.1 (List.mem_map.2 ⟨x, hx, rfl⟩)
    obtain ⟨x1, x2, x3⟩ := recs_mem hn (runs_sep d v) _ hx2
    have := List.length_pos_iff.2 x1
    exact ⟨by omega, by omega⟩) h1
  have g2 : Goes (putAll (F.map Prod.snd), false) (mess q1 endLine) (putAll (F.map Prod.snd), true) := goes_mess q1 (by show trimCR endLine = endLine; rw [← endLine_is]; exact recLine_trim _ _ _) (step_end rfl)
  have g3 : Goes (putAll (F.map Prod.snd), true) (mess q2 []) (putAll (F.map Prod.snd), true) := by
    cases q2 with
    | false => exact Goes.one (step_blank rfl)
    | true => exact (Goes.one (step_blank rfl)).trans (M := [[32, 9]]) (Goes.one (step_blank rfl))
  exact ⟨_, ((g1.trans g2).trans g3).ends rfl i, h2⟩
end Go.Proofs.YtcfjcoockklkeaaGreatDoor
