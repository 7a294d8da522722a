/-
  The reference's Size. Conditions: sizes.
-/
import Derived.Test.YtlepicdjnbbndaaGreatDoorS16
import Derived.Test.YtlepicdjnbbndaaGreatDoorTF
namespace Go.Proofs.YtlepicdjnbbndaaGreatDoor
open Go.RowKit Go.Shelf Go.Sort

/-- how many bytes the letters stand for -/
def lenX : List UInt8 → Int
  | [] => 0
  | b :: r => (if ((b.toNat : Int) == 119) = true then 2 else 1) + lenX r
theorem lenX_le : ∀ l : List UInt8, 0 ≤ lenX l ∧ lenX l ≤ 2 * l.length
  | [] => by simp [lenX]
  | b :: r => by
    have h := lenX_le r
    rw [lenX, List.length_cons]
    split <;> omega
theorem prefF_len9 (p : Int) : (prefF p).length ≤ 2 := by
  unfold prefF
  repeat' split
  all_goals simp
theorem lenX_snoc : ∀ (l : List UInt8) (b : UInt8), lenX (l ++ [b]) = lenX l + (if ((b.toNat : Int) == 119) = true then 2 else 1)
  | [], b => by simp [lenX]
  | a :: r, b => by
    rw [List.cons_append, lenX, lenX, lenX_snoc r b]; omega
set_option maxHeartbeats 4000000 in
set_option maxRecDepth 100000 in
theorem Size9_any (pg op : Int) (s ex : ByteArray) (al : Bool) (va : Option Addr) (vn vc : Nat) (w : World) (hex : ex.size ≤ 1000) :
    Calls Tryz.prog 20 #[.agg #[.int .i64 pg, .int .u8 op, .string s, .slice va vn vc, .string ex, .bool al]] w fun e w' => e = .returned (.int .i64 (((prefF pg).length : Int) + 1 + lenX ex.data.toList)) ∧ Below w.heap.size w w' := by
  have HF := Lib.hid ((Fr.start w).new 36 #[.int .i64 pg, .int .u8 op, .string s, .slice va vn vc, .string ex, .bool al])
  have HP := Lib.hid (fun W => RefPrefixes_any pg W)
  have hpl := prefF_len9 pg
  have HPL := Lib.hid hpl
  have HLX := Lib.hid (lenX_le ex.data.toList)
  clear hpl
  go_enter Tryz.func20, Tryz.ntmps20
  go_wp2_with (go_at_call 27; refine (HP.out _).mono ?_; rintro e w1 ⟨v, rfl, ho, hb⟩; obtain ⟨pa, pc, rfl⟩ := ho.form; have H := Lib.hid (HF.out.next hb); have hpl : (prefF pg).length ≤ 2 := HPL.out; clear ho hb)
  generalize hn : (prefF pg).length = n at *
  have HN := Lib.hid hn
  clear hn
  go_loop [3, 4] (fun t i => ∃ k : Nat, k ≤ ex.size ∧ i = .int .i64 k ∧ t = .int .i64 ((n : Int) + 1 + lenX (ex.data.toList.take k))) (fun _ i => ex.size - (intOf i).toNat)
  case atStart => exact ⟨0, Nat.zero_le _, rfl, by simp [lenX]⟩
  case round =>
    obtain ⟨k, hk, rfl, rfl⟩ := hrel
    have e4 := (H.out.blk 0 rfl).cell 4
    have hn2 : n ≤ 2 := HPL.out
    have hlx := lenX_le (ex.data.toList.take k)
    have hl9 : (ex.data.toList.take k).length ≤ k := List.length_take_le _ _
    by_cases hlt : k < ex.size
    · have hts : ex.data.toList.take (k + 1) = ex.data.toList.take k ++ [ex[k]] := by rw [List.take_succ_eq_append_getElem (by simpa using hlt)]; rfl
      have hsn := lenX_snoc (ex.data.toList.take k) ex[k]
      rw [← hts] at hsn
      have HSN := Lib.hid hsn
      clear hts hsn
      by_cases hc : ((ex[k].toNat : Int) == 119) = true
      · go_wp2
        go_round
        case rel => exact ⟨k + 1, by omega, by go_num, by rw [HSN.out, if_pos hc]; go_num⟩
        case measure => simp [intOf]; omega
      · have hc' : ((ex[k].toNat : Int) == 119) = false := by simpa using hc
        go_wp2
        go_round
        case rel => exact ⟨k + 1, by omega, by go_num, by rw [HSN.out, if_neg hc]; go_num⟩
        case measure => simp [intOf]; omega
    · have hk2 : k = ex.size := by omega
      have HTK : Hid (ex.data.toList.take k = ex.data.toList) := List.take_of_length_le (by simp; omega)
      clear hk2
      go_wp2
      go_ret
      exact ⟨by rw [HN.out, HTK.out]; rfl, H.out.below⟩
end Go.Proofs.YtlepicdjnbbndaaGreatDoor
