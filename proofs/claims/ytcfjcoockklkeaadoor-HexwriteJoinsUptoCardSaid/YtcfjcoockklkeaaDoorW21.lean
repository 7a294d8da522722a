/-
  breadboardlaw04.HexwriteDumps. Conditions: the addresses fit their type; the library's table as its initialiser lays it.
-/
import Derived.Test.YtcfjcoockklkeaaDoorW20
namespace Go.Proofs.YtcfjcoockklkeaaDoor
open Go.RowKit

theorem sep_count : ∀ {R : List (Nat × List UInt8)} {lo : Nat}, Sep lo R → R = [] ∨ R.length + lo ≤ 65536
  | [], _, _ => .inl rfl
  | (a, l) :: R, lo, h => by
    obtain ⟨h1, h2, h3, h4⟩ := h
    right
    have hp := List.length_pos_iff.2 h2
    rcases sep_count h4 with rfl | h5
    · simp; omega
    · simp; omega
theorem runs_len (d : Nat → Bool) (v : Nat → UInt8) : (runsOf d v).length ≤ 65536 := by
  rcases sep_count (runs_sep d v) with h | h
  · rw [h]; simp
  · omega
theorem cells_low {d : Nat → Bool} {v : Nat → UInt8} : ∀ c ∈ cellsOf d v, c.addr ≤ 65535 := fun c hc => by
  have := segC_mem _ _ hc
  omega
theorem Both.imgV {w0 w : World} {b n : Nat} {cv : Value} {S : ImgS} (h : Both w0 w b cv S n) : ImgV w (.pointer (some ⟨b, 0, none⟩)) (runsOf S.1 S.2) := .inr ⟨b, n, _, _, rfl, h.img, rfl⟩
/-- the image's dump is the cells' dump -/
theorem Both.dumps {w0 w : World} {b n : Nat} {cv : Value} {S : ImgS} (h : Both w0 w b cv S n) (hT : Deb w) :
    Calls Tryd.prog 15 #[.pointer (some ⟨b, 0, none⟩)] w fun e w' => e = .returned (.string ⟨(dumpOf (runsOf S.1 S.2)).toArray⟩) ∧ Below w.heap.size w w' := Dump_any _ _ w h.imgV hT (runs_len _ _)
theorem Both.dumps02 {w0 w : World} {b n : Nat} {cv : Value} {S : ImgS} (h : Both w0 w b cv S n) :
    Calls Tryd.prog 16 #[cv] w fun e w' => e = .returned (.string ⟨(dumpOf (runsOf S.1 S.2)).toArray⟩) ∧ w = w' := by
  rw [← dump02_of]
  exact Dump02_any _ _ _ w h.cells.sl (Nat.le_trans (cellsOf_len _ _) (by omega)) cells_low
theorem Both.later {w0 w w' : World} {b n : Nat} {cv : Value} {S : ImgS} (h : Both w0 w b cv S n) (hb : Below w.heap.size w w') : Both w0 w' b cv S n :=
  ⟨h.img.below hb h.img.lt, h.cells.below hb (fun _ hk => hk), h.at_, h.below.trans (hb.mono h.below.size)⟩
set_option maxHeartbeats 2000000 in
set_option maxRecDepth 100000 in
theorem Dumps_any (p : Blocks) (v : Value) (R : List (Int × List UInt8)) (w : World) (h : SlR runIR w p v R) (hT : Deb w) (hA : ∀ r ∈ R, -9223372036854775808 ≤ r.1 ∧ r.1 ≤ 9223372036854775807) :
    Calls Tryd.prog 3 #[v] w fun e w' => e = .returned (.bool true) ∧ Below w.heap.size w w' := by
  have HT := Lib.hid hT
  by_cases hf : fewB R = true
  · have HBU := Lib.hid (Build_yes p v R w h hT hA hf)
    clear h hT hA hf
    go_enter Tryd.func3, Tryd.ntmps3
    generalize putF R = S at *
    have HDU := Lib.hid (fun (b n : Nat) (cv : Value) (W : World) (h : Both w W b cv S n) (hT : Deb W) => h.dumps hT)
    have HD2 := Lib.hid (fun (b n : Nat) (cv : Value) (W : World) (h : Both w W b cv S n) => h.dumps02)
    generalize (⟨(dumpOf (runsOf S.1 S.2)).toArray⟩ : ByteArray) = txt at *
    go_wp2_with (first
      | (go_at_call 12; refine HBU.out.mono ?_; rintro e w1 ⟨b, n, cv, rfl, hbo⟩; have HB1 := Lib.hid hbo; clear hbo)
      | (go_at_call 13; refine (alive4_any _ (HT.out.below HB1.out.below)).mono ?_; rintro e w2 ⟨rfl, hb⟩; have HB2 := Lib.hid (HB1.out.later hb); clear hb)
      | (go_at_call 15; refine (HDU.out b n cv _ HB2.out (HT.out.below HB2.out.below)).mono ?_; rintro e w3 ⟨rfl, hb⟩; have HB3 := Lib.hid (HB2.out.later hb); clear hb)
      | (go_at_call 16; refine (HD2.out b n cv _ HB3.out).mono ?_; rintro e w4 ⟨rfl, rfl⟩))
    go_ret
    exact ⟨rfl, HB3.out.below⟩
  · have hf : fewB R = false := by simpa using hf
    have HBU := Lib.hid (Build_no p v R w h hf)
    have HF := Lib.hid (fun (W : World) (hb : Below w.heap.size w W) => Few_any _ v R W (h.old.below hb))
    rw [hf] at HF
    clear h hT hA hf
    go_enter Tryd.func3, Tryd.ntmps3
    go_wp2_with (first
      | (go_at_call 12; refine HBU.out.mono ?_; rintro e w1 ⟨rfl, rfl⟩)
      | (go_at_call 13; refine (alive4_any _ HT.out).mono ?_; rintro e w2 ⟨rfl, hb⟩; have HB2 := Lib.hid hb; clear hb)
      | (go_at_call 14; refine (HF.out _ HB2.out).mono ?_; rintro e w3 ⟨rfl, rfl⟩))
    go_ret
    exact ⟨rfl, HB2.out⟩
end Go.Proofs.YtcfjcoockklkeaaDoor
