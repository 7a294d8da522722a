/-
  num.Hex. Conditions: none.
-/
import Derived.Test.YtcfjcoockklkeaaDoorHex2
namespace Go.Proofs.YtcfjcoockklkeaaDoor
open Go.RowKit

theorem dig_at (d : Nat) (hd : d < 16) (h : d < digS.size) : digS[d] = digs.getD d 0 := by
  obtain e | e | e | e | e | e | e | e | e | e | e | e | e | e | e | e : d = 0 ∨ d = 1 ∨ d = 2 ∨ d = 3 ∨ d = 4 ∨ d = 5 ∨ d = 6 ∨ d = 7 ∨ d = 8 ∨ d = 9 ∨ d = 10 ∨ d = 11 ∨ d = 12 ∨ d = 13 ∨ d = 14 ∨ d = 15 := by omega
  all_goals subst e; rfl
theorem run_idx (m : Nat) (w : World) : (Instr.index 9 (.string ⟨#[48, 49, 50, 51, 52, 53, 54, 55, 56, 57, 65, 66, 67, 68, 69, 70]⟩) (.int .i64 ((m : Int) % 16))).run Tryd.prog w = .ok (.int .u8 ((digs.getD (m % 16) 0).toNat : Nat)) w := by
  have hu : Tryd.prog.underlying 9 = some .string := by kernel_rfl
  have h1 : 0 ≤ (m : Int) % 16 ∧ (m : Int) % 16 < (digS.size : Nat) := ⟨by omega, by show (m : Int) % 16 < 16; omega⟩
  have e := run_index_string (P := Tryd.prog) w 9 digS .i64 ((m : Int) % 16) hu
  rw [dif_pos h1] at e
  have e2 : ((m : Int) % 16).toNat = m % 16 := by omega
  have e3 : digS[((m : Int) % 16).toNat]'(by show _ < 16; omega) = digs.getD (m % 16) 0 := by
    have := dig_at (m % 16) (Nat.mod_lt _ (by omega)) (by show m % 16 < 16; omega)
    rw [← this]
    congr 1
  rw [e3] at e
  exact e
theorem set_rep (c : UInt8) (t : List UInt8) : ∀ j, (List.replicate (j + 1) 0 ++ t).set j c = List.replicate j 0 ++ c :: t
  | 0 => rfl
  | j + 1 => by
    show (0 :: (List.replicate (j + 1) 0 ++ t)).set (j + 1) c = 0 :: (List.replicate j 0 ++ c :: t)
    rw [List.set_cons_succ, set_rep c t j]
set_option maxRecDepth 100000 in
set_option maxHeartbeats 2000000 in
theorem Hex_any (n k : Nat) (w : World) (hn : n ≤ 1000000) (hk : k ≤ 100) :
    Calls Tryd.prog 46 #[.int .i64 n, .int .i64 k] w fun e w' => e = .returned (.string ⟨(hexs n k).toArray⟩) ∧ Below w.heap.size w w' := by
  obtain ⟨w0, hmk, hb, hlt0, hrow⟩ := run_make_bytes w k (by omega)
  have HB := Lib.hid hb
  have HROW := Lib.hid hrow
  have HLT0 := Lib.hid hlt0
  have hk0 : (0 : Int) ≤ (k : Int) := by omega
  have hk1 : (k : Int) ≤ 100 := by omega
  have hmax : (if (0 : Int) > (k : Int) then (0 : Int) else (k : Int)) = k := by rw [if_neg (by omega)]
  clear hb hrow hlt0
  go_enter Tryd.func46, Tryd.ntmps46
  go_wp2
  go_loopw [0, 6] (fun x z wr => ∃ (m j : Nat) (ii : Int) (t : List UInt8), x = .int .i64 m ∧ z = .int .i64 ii ∧ ii = (j : Int) - 1 ∧ m ≤ 1000000 ∧ t.length + j = k ∧ hexs n k = hexs m j ++ t ∧ ByteRow wr w.heap.size (List.replicate j 0 ++ t) ∧ Below w.heap.size w wr) (fun _ z _ => (intOf z + 1).toNat)
  case atStart => exact ⟨n, k, _, [], rfl, rfl, rfl, hn, by simp, by simp, by simpa using HROW.out, HB.out⟩
  case round =>
    clear hmk
    obtain ⟨m, j, ii, t, rfl, rfl, hii, hm, hl, hx, hr, hbw⟩ := hrel
    have HX := Lib.hid hx
    have HR := Lib.hid hr
    have HBW := Lib.hid hbw
    have HLL := Lib.hid hl
    clear hx hr hbw hl
    cases j with
    | succ j =>
      obtain rfl : ii = (j : Int) := by omega
      clear hmax hii
      have h0 : (0 : Int) ≤ (m : Int) := by omega
      have hm1 : (m : Int) ≤ 1000000 := by omega
      have hj0 : (0 : Int) ≤ (j : Int) := by omega
      have hjk : (j : Int) < (k : Int) := by have := HLL.out; omega
      have hand : bits .and .i64 (m : Int) 15 = (m : Int) % 16 := (i64_and15 m).trans (by omega)
      have hidx := run_idx m
      have hf := HR.out.free j (by simp; omega)
      have hc := HR.out.cell j 0 (by rw [List.getElem?_append_left (by simp), List.getElem?_replicate, if_pos (by omega)])
      go_wp2
      rw [← List.getD_eq_getElem?_getD]
      refine ⟨⟨m / 16, j, _, digs.getD (m % 16) 0 :: t, by go_num, rfl, rfl, by omega, by have := HLL.out; simp; omega, HX.out.trans (hexs_step m j t), ?_, HBW.out.setCell (p := ⟨w.heap.size, j, none⟩) (Nat.le_refl _) _⟩, by simp [intOf]⟩
      rw [← set_rep]
      exact HR.out.set j _
    | zero =>
      obtain rfl : ii = -1 := by simpa using hii
      have hk2 := HLL.out
      rw [Nat.add_zero] at hk2
      have hx2 : hexs n k = t := HX.out
      have hstr := run_string wr w.heap.size k t HR.out
      rw [hk2, ← hx2] at hstr
      clear hii hx2 hk2
      go_wp2
      go_ret
      exact ⟨rfl, HBW.out⟩
end Go.Proofs.YtcfjcoockklkeaaDoor
