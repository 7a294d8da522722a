/-
  A row of bytes of the call's own; num.Upper. Conditions: the string's size.
-/
import Derived.Test.YtkkjoghfdmmpaaaDoorStr
import Derived.Lib.ConvBytes
namespace Go.Proofs.YtkkjoghfdmmpaaaDoor
open Go.RowKit

/-- Block b holds the bytes l from its first cell on; they may be written. -/
structure ByteRow (w : World) (b : Nat) (l : List UInt8) : Prop where
  cell : ∀ j x, l[j]? = some x → w.cell? ⟨b, j, none⟩ = some (.int .u8 x.toNat)
  free : ∀ j, j < l.length → w.frozen? ⟨b, j, none⟩ = false
theorem ByteRow.set {w : World} {b : Nat} {l : List UInt8} (h : ByteRow w b l) (k : Nat) (y : UInt8) : ByteRow (w.setCell ⟨b, k, none⟩ (.int .u8 y.toNat)) b (l.set k y) := by
  refine ⟨fun j x hx => ?_, fun j hj => ?_⟩
  · by_cases hjk : k = j
    · subst hjk
      have hk : k < l.length := by have := (List.getElem?_eq_some_iff.1 hx).1; simpa using this
      rw [List.getElem?_set_self hk] at hx
      obtain rfl : y = x := by simpa using hx
      exact World.cell?_setCell_same' _ _ _ (by rw [h.cell k l[k] (List.getElem?_eq_getElem hk)]; rfl)
    · rw [List.getElem?_set_ne hjk] at hx
      rw [World.cell?_setCell_other _ _ _ _ (by simp)]
      exact h.cell j x hx
  · rw [World.frozen?_setCell]
    exact h.free j (by simpa using hj)
theorem ByteRow.below {w w' : World} {b B : Nat} {l : List UInt8} (h : ByteRow w b l) (hb : Below B w w') (hB : b < B) : ByteRow w' b l :=
  ⟨fun j x hx => (hb.cell (p := ⟨b, j, none⟩) hB).trans (h.cell j x hx), fun j hj => (hb.frozen (p := ⟨b, j, none⟩) hB).trans (h.free j hj)⟩

/-- '[]byte(s)': a new row, the string's bytes. -/
theorem run_bytes (w : World) (s : ByteArray) : ∃ cap w0, (convert 9 58 (.string s)).run Tryd.prog w = .ok (.slice (some ⟨w.heap.size, 0, none⟩) s.size cap) w0 ∧
    s.size ≤ cap ∧ Below w.heap.size w w0 ∧ w0.heap.size = w.heap.size + 1 ∧ ByteRow w0 w.heap.size s.data.toList := by
  refine ⟨_, _, Lib.run_convert_string_bytes w _ _ _ s Tryd.underlying9 Tryd.underlying58 Tryd.underlying5, grownCap_ge _ _ _ _, ⟨rfl, rfl, rfl, ?_, fun k hk => Lib.bytesWorld_at_old _ _ _ _ hk⟩, Lib.bytesWorld_size _ _ _, ⟨fun j x hx => ?_, fun j hj => ?_⟩⟩
  · rw [Lib.bytesWorld_size]; omega
  · have hj := (List.getElem?_eq_some_iff.1 hx).1
    rw [Lib.bytesWorld_cell _ _ _ _ (by simpa using hj)]
    rw [List.getD_eq_getElem?_getD, hx]; rfl
  · unfold World.frozen?
    rw [show (Lib.bytesWorld w 5 s).heap[w.heap.size]? = _ from Lib.bytesWorld_at_new _ _ _]
    have : s.size ≤ (Lib.bytesCells w 5 s).size := by simp [Lib.bytesCells]
    have hj' : j < s.size := by simpa using hj
    simp
    omega
/-- 'string(b)' of such a row. -/
theorem run_string (w : World) (b cap : Nat) (l : List UInt8) (h : ByteRow w b l) : (convert 58 9 (.slice (some ⟨b, 0, none⟩) l.length cap)).run Tryd.prog w = .ok (.string ⟨l.toArray⟩) w :=
  run_convert_bytes_back w _ _ _ _ cap l Tryd.underlying58 Tryd.underlying5 Tryd.underlying9 (fun j hj => by
    have hadd : (⟨b, 0, none⟩ : Addr).add j = ⟨b, j, none⟩ := by unfold Addr.add; split <;> simp_all
    rw [hadd]
    exact h.cell j l[j] (List.getElem?_eq_getElem hj))

def up (c : UInt8) : UInt8 := if 97 ≤ c.toNat ∧ c.toNat ≤ 122 then c - 32 else c
theorem up_step {l : List UInt8} {k : Nat} {c : UInt8} (hk : k < l.length) (HT : l.take (k+1) = l.take k ++ [c]) (HD : l.drop k = c :: l.drop (k+1)) :
    ((l.take k).map up ++ l.drop k).set k (up c) = (l.take (k+1)).map up ++ l.drop (k+1) := by
  rw [HT, HD, List.set_append_right _ _ (by simp; omega)]
  simp [List.length_take, Nat.min_eq_left (Nat.le_of_lt hk)]
theorem up_keep {l : List UInt8} {k : Nat} {c : UInt8} (hc : up c = c) (HT : l.take (k+1) = l.take k ++ [c]) (HD : l.drop k = c :: l.drop (k+1)) :
    (l.take k).map up ++ l.drop k = (l.take (k+1)).map up ++ l.drop (k+1) := by
  rw [HT, HD]; simp [hc]
theorem up_yes {c : UInt8} (h1 : 97 ≤ c.toNat) (h2 : c.toNat ≤ 122) : ((up c).toNat : Int) = (c.toNat : Int) - 97 + 65 := by
  have : (up c).toNat = c.toNat - 32 := by
    unfold up
    rw [if_pos ⟨h1, h2⟩, UInt8.toNat_sub_of_le _ _ (by rw [UInt8.le_iff_toNat_le]; show 32 ≤ c.toNat; omega)]
    rfl
  omega
theorem up_no {c : UInt8} (h : ¬ (97 ≤ c.toNat ∧ c.toNat ≤ 122)) : up c = c := by unfold up; rw [if_neg h]
def upper (s : ByteArray) : ByteArray := ⟨(s.data.toList.map up).toArray⟩

set_option maxHeartbeats 600000 in
theorem Upper_any (s : ByteArray) (w : World) (hs : s.size ≤ 9223372036854775807) :
    Calls Tryd.prog 106 #[.string s] w fun e w' => e = .returned (.string (upper s)) ∧ Below w.heap.size w w' := by
  obtain ⟨cap, w0, hconv, hcap, hb, hsz, hrow⟩ := run_bytes w s
  have HSZ := Lib.hid hsz
  clear hsz
  generalize hl : s.data.toList = l at *
  have hlen : l.length = s.size := by rw [← hl]; simp
  have HL := Lib.hid hl
  have HLEN := Lib.hid hlen
  clear hl hlen
  go_enter Tryd.func106, Tryd.ntmps106
  go_wp2
  go_loopw [4, 5, 10] (fun _ _ i wr => ∃ k : Nat, k ≤ s.size ∧ i = .int .i64 k ∧ ByteRow wr w.heap.size ((l.take k).map up ++ l.drop k) ∧ Below w.heap.size w wr) (fun _ _ i _ => s.size - (intOf i).toNat)
  case atStart => exact ⟨0, Nat.zero_le _, rfl, by simpa using hrow, hb⟩
  case round =>
    clear hconv hrow hb
    obtain ⟨k, hk, rfl, hrow, hb⟩ := hrel
    by_cases hlt : k < s.size
    · have hlt' : k < l.length := by have := HLEN.out; omega
      have hc := hrow.cell k l[k] (by rw [List.getElem?_append_right (by simp; omega)]; simp [Nat.min_eq_left (Nat.le_of_lt hlt')])
      have hf := hrow.free k (by simp; omega)
      have HSET := Lib.hid (hrow.set k (up l[k]))
      have HROW := Lib.hid hrow
      have HT : Hid (l.take (k+1) = l.take k ++ [l[k]]) := List.take_succ_eq_append_getElem hlt'
      have HD : Hid (l.drop k = l[k] :: l.drop (k+1)) := List.drop_eq_getElem_cons hlt'
      clear hrow
      generalize l[k] = c at *
      have hc256 : c.toNat < 256 := c.toNat_lt
      by_cases h1 : 97 ≤ c.toNat
      · by_cases h2 : c.toNat ≤ 122
        · have HU := Lib.hid (up_yes h1 h2)
          go_wp2
          go_roundw
          case rel => exact ⟨k + 1, by omega, by go_num, by rw [← up_step hlt' HT.out HD.out, ← HU.out]; exact HSET.out, hb.setCell (p := ⟨w.heap.size, k, none⟩) (Nat.le_refl _) _⟩
          case measure => simp [intOf]; omega
        · go_wp2
          go_roundw
          case rel => exact ⟨k + 1, by omega, by go_num, by rw [← up_keep (up_no (by omega)) HT.out HD.out]; exact HROW.out, hb⟩
          case measure => simp [intOf]; omega
      · go_wp2
        go_roundw
        case rel => exact ⟨k + 1, by omega, by go_num, by rw [← up_keep (up_no (by omega)) HT.out HD.out]; exact HROW.out, hb⟩
        case measure => simp [intOf]; omega
    · have hk' : k = s.size := by omega
      have hfull : (l.take k).map up ++ l.drop k = l.map up := by
        have := HLEN.out
        rw [List.take_of_length_le (by omega), List.drop_of_length_le (by omega)]; simp
      rw [hfull] at hrow
      have hstr := run_string wr w.heap.size cap (l.map up) hrow
      rw [List.length_map, HLEN.out, ← HL.out] at hstr
      clear hfull hrow hk'
      go_wp2
      go_ret
      exact ⟨rfl, hb⟩
end Go.Proofs.YtkkjoghfdmmpaaaDoor
