/-
  (*record.cursor).take; record.Parse. Conditions: the line's size.
-/
import Derived.Test.YtcfjcoockklkeaaGreatDoorV3
namespace Go.Proofs.YtcfjcoockklkeaaGreatDoor
open Go.RowKit

def beN (l : List UInt8) : Nat := l.foldl (fun x y => 256 * x + y.toNat) 0
theorem beN_snoc (l : List UInt8) (y : UInt8) : beN (l ++ [y]) = 256 * beN l + y.toNat := by
  unfold beN
  rw [List.foldl_append]; rfl
theorem or_byte (y : Nat) (z : UInt8) (hy : y < 256) : bits .or .i64 ((y : Int) * 256) (z.toNat : Int) = 256 * (y : Int) + (z.toNat : Int) := by
  have hz := z.toNat_lt
  rw [bits_join .i64 16 (by decide) (fun n h0 h1 => by rw [IntKind.wrap_i64]; omega) 8 ((y : Int) * 256) (z.toNat : Int) (by omega) (by omega) (by omega) (by omega) (by omega) (by omega)]
  omega
theorem cut_h (b o len cap h : Nat) (h2 : h ≤ cap) (W : World) : (Instr.sliceAt 55 (.slice (some ⟨b, o, none⟩) len cap) none (some (.int .i64 (h : Int))) none).run Tryz.prog W = .ok (.slice (some ⟨b, o, none⟩) h cap) W := by
  rw [run_sliceAt_slice _ _ _ _ _ _ (by kernel_rfl), run_slice_h W _ (some ⟨b, o, none⟩) len cap (by kernel_rfl) .i64 (h : Int) (by omega) (by omega)]
  go_simp
theorem cut_l (b o len cap l : Nat) (h1 : l ≤ len) (h2 : l < cap) (W : World) : (Instr.sliceAt 55 (.slice (some ⟨b, o, none⟩) len cap) (some (.int .i64 (l : Int))) none none).run Tryz.prog W = .ok (.slice (some ⟨b, o + l, none⟩) (len - l) (cap - l)) W := by
  rw [run_sliceAt_slice _ _ _ _ _ _ (by kernel_rfl), run_slice_l W _ (some ⟨b, o, none⟩) len cap (by kernel_rfl) .i64 (l : Int) (by omega) (by omega)]
  go_simp
  omega
/-- a cursor: its slice lies in a block of the call's own -/
structure Cur (w0 w : World) (g : Nat) (bb oo L c i : Nat) : Prop where
  cell : w.cell? ⟨g, 0, none⟩ = some (.slice (some ⟨bb, oo + i, none⟩) (L - i) (c - i))
  free : w.frozen? ⟨g, 0, none⟩ = false
  at_ : w0.heap.size ≤ g
  lt : g < w.heap.size
  below : Below w0.heap.size w0 w
theorem Cur.alloc {w0 w : World} {g bb oo L c i : Nat} (h : Cur w0 w g bb oo L c i) (o : Obj) : Cur w0 (w.alloc o) g bb oo L c i := by
  have hb := Below.heap_alloc w o g h.lt
  refine ⟨?_, ?_, h.at_, by rw [World.size_alloc]; exact Nat.lt_succ_of_lt h.lt, h.below.alloc h.below.size _⟩
  · have := h.cell; unfold World.cell? at this ⊢; rw [hb]; exact this
  · have := h.free; unfold World.frozen? at this ⊢; rw [hb]; exact this
theorem Cur.drew {w0 w : World} {g bb oo L c i : Nat} (h : Cur w0 w g bb oo L c i) : Cur w0 w.drew g bb oo L c i := ⟨h.cell, h.free, h.at_, h.lt, h.below.drew⟩
theorem Cur.set {w0 w : World} {g bb oo L c i : Nat} (h : Cur w0 w g bb oo L c i) (j : Nat) : Cur w0 (w.setCell ⟨g, 0, none⟩ (.slice (some ⟨bb, oo + j, none⟩) (L - j) (c - j))) g bb oo L c j := by
  refine ⟨World.cell?_setCell_same' _ _ _ (by rw [h.cell]; rfl), by rw [World.frozen?_setCell]; exact h.free, h.at_, by rw [World.size_setCell]; exact h.lt, h.below.setCell h.at_ _⟩
set_option maxHeartbeats 2000000 in
set_option maxRecDepth 100000 in
theorem take_any (n : Nat) (w0 : World) (p : Blocks) (g bb oo c i : Nat) (l : List UInt8) (w : World) (h : Cur w0 w g bb oo l.length c i) (hs : SlR byteR w0 p (.slice (some ⟨bb, oo, none⟩) l.length c) l) (hp : ∀ k, p k → k < w0.heap.size) (hn : n ≤ 2) (hi : i + n < l.length) :
    Calls Tryz.prog 79 #[.pointer (some ⟨g, 0, none⟩), .int .i64 n] w fun e w' => e = .returned (.int .i64 (beN ((l.drop i).take n))) ∧ w' = w.setCell ⟨g, 0, none⟩ (.slice (some ⟨bb, oo + (i + n), none⟩) (l.length - (i + n)) (c - (i + n))) := by
  obtain ⟨a, c', e, hc1, hc2, gg⟩ := (hs.keep (Keep.of_below h.below hp)).byte
  obtain ⟨rfl, rfl⟩ : some ⟨bb, oo, none⟩ = a ∧ c = c' := by injection e with h1 h2 h3; exact ⟨h1, h3⟩
  have G := Lib.hid gg
  have d0 := h.cell
  have g0 := h.free
  clear e gg h hs
  obtain ⟨m, hm⟩ : ∃ m, m = l.length - i := ⟨_, rfl⟩
  obtain ⟨cm, hcm⟩ : ∃ cm, cm = c - i := ⟨_, rfl⟩
  rw [← hm, ← hcm] at d0
  rw [show l.length - (i + n) = m - n by omega, show c - (i + n) = cm - n by omega, ← Nat.add_assoc]
  have hmn : n < m := by omega
  have hmc : m ≤ cm := by omega
  have hcm2 : cm ≤ 9223372036854775807 := by omega
  have hn1 : (n : Int) ≤ 2 := by omega
  have hcutA := cut_h bb (oo + i) m cm n (by omega)
  have hcutB := cut_l bb (oo + i) m cm n (by omega) (by omega)
  have HX := Lib.hid (show i + n < l.length from hi)
  have HM := Lib.hid hm
  clear hc1 hc2 hm hcm hi hp
  go_enter Tryz.func79, Tryz.ntmps79
  go_wp2
  go_loop [5, 15] (fun x k => ∃ j y : Nat, j ≤ n ∧ k = .int .i64 j ∧ x = .int .i64 y ∧ y = beN ((l.drop i).take j) ∧ (j ≤ 1 → y < 256)) (fun _ k => n - (intOf k).toNat)
  case atStart => exact ⟨0, 0, Nat.zero_le _, rfl, rfl, rfl, fun _ => by omega⟩
  case round =>
    obtain ⟨j, y, hj, rfl, rfl, hy, hy2⟩ := hrel
    have HY := Lib.hid hy
    clear hy
    by_cases hlt : j < n
    · have hj1 : j ≤ 1 := by omega
      have hy256 := hy2 hj1
      have hlx : i + j < l.length := by have := HX.out; omega
      obtain ⟨b1, o1, e, _, hcell⟩ := G.out (i + j) l[i+j] (List.getElem?_eq_getElem hlx)
      obtain ⟨rfl, rfl⟩ : bb = b1 ∧ oo = o1 := by injection e with e; injection e with h1 h2; exact ⟨h1, h2⟩
      rw [← Nat.add_assoc] at hcell
      have hN : beN ((l.drop i).take (j + 1)) = 256 * y + l[i+j].toNat := by
        rw [HY.out, List.take_add_one, List.getElem?_drop, List.getElem?_eq_getElem hlx]
        exact beN_snoc _ _
      have HN := Lib.hid hN
      have hbits := or_byte y l[i+j] hy256
      have hx256 := l[i+j].toNat_lt
      clear e hN hy2
      generalize l[i+j] = z at *
      go_wp2
      go_round
      case rel => exact ⟨j + 1, 256 * y + z.toNat, by omega, by go_num, by go_num, HN.out.symm, fun h => by
        have e : j = 0 := by omega
        subst e
        have h0 : y = 0 := HY.out
        omega⟩
      case measure => simp [intOf]; omega
    · obtain rfl : j = n := by omega
      have HE := HY.out
      subst HE
      go_wp2
      go_ret
      exact ⟨rfl, rfl⟩
/-- take: the cursor goes on, nothing else changes -/
theorem take_cur (n : Nat) (w0 : World) (p : Blocks) (g bb oo c i : Nat) (l : List UInt8) (w : World) (h : Cur w0 w g bb oo l.length c i) (hs : SlR byteR w0 p (.slice (some ⟨bb, oo, none⟩) l.length c) l) (hp : ∀ k, p k → k < w0.heap.size) (hn : n ≤ 2) (hi : i + n < l.length) :
    Calls Tryz.prog 79 #[.pointer (some ⟨g, 0, none⟩), .int .i64 n] w fun e w' => e = .returned (.int .i64 (beN ((l.drop i).take n))) ∧ Cur w0 w' g bb oo l.length c (i + n) ∧ w'.heap.size = w.heap.size ∧ ∀ k, k ≠ g → w'.heap[k]? = w.heap[k]? :=
  (take_any n w0 p g bb oo c i l w h hs hp hn hi).mono fun e w' ⟨h1, h2⟩ => by
    subst h2
    exact ⟨h1, h.set _, World.size_setCell _ _ _, fun k hk => Below.heap_setCell _ _ _ _ hk⟩
/-- the record, or a code -/
def ParseP (w : World) (line : List UInt8) (e : Ending) (w' : World) : Prop :=
  ∃ (r : RecV) (c : Nat) (v : Value), parseH line = (c, r) ∧ e = .returned (.tuple #[.agg #[.int .i64 r.t, .int .i64 r.a, v], .int .i64 c]) ∧ SlR byteR w' (fun k => w.heap.size ≤ k) v r.l ∧ Below w.heap.size w w'
theorem ParseP.bad {w w' : World} {line : List UInt8} {c : Nat} (h : parseH line = (c, recZ)) (hb : Below w.heap.size w w') : ParseP w line (.returned (.tuple #[.agg #[.int .i64 0, .int .i64 0, .slice none 0 0], .int .i64 c])) w' :=
  ⟨recZ, c, .slice none 0 0, h, rfl, SlR.nil _ _ _, hb⟩
theorem cut58_yes (r : List UInt8) (w : World) : Calls Tryz.prog 77 #[.string ⟨(58 :: r).toArray⟩, .string ⟨#[58]⟩] w fun e w' => e = .returned (.tuple #[.string ⟨r.toArray⟩, .bool true]) ∧ w = w' :=
  (Tryz.strings_CutPrefix _ _ w).mono fun e w' ⟨h1, h2⟩ => ⟨by
    rw [h1]
    simp [Lib.trimPrefix, Lib.hasPrefix, List.isPrefixOf], h2.symm⟩
theorem cut58_no (s : ByteArray) (w : World) (h : ∀ r, s.data.toList ≠ 58 :: r) : Calls Tryz.prog 77 #[.string s, .string ⟨#[58]⟩] w fun e w' => e = .returned (.tuple #[.string s, .bool false]) ∧ w = w' :=
  (Tryz.strings_CutPrefix _ _ w).mono fun e w' ⟨h1, h2⟩ => ⟨by
    have hp : Lib.hasPrefix s.data.toList [58] = false := by
      cases hl : s.data.toList with
      | nil => rfl
      | cons c r =>
        simp [Lib.hasPrefix, List.isPrefixOf]
        intro e
        exact h r (by rw [hl, e])
    rw [h1]
    show Ending.returned (.tuple #[.string ⟨(Lib.trimPrefix s.data.toList [58]).toArray⟩, .bool (Lib.hasPrefix s.data.toList [58])]) = _
    rw [Lib.trimPrefix, hp, if_neg (by simp)], h2.symm⟩
theorem bytes_some (s : ByteArray) (w : World) (hs : s.size ≤ 1000000000) : Calls Tryz.prog 78 #[.string s] w fun e w' => ∃ a n c b, e = .returned (.tuple #[.slice a n c, .bool b]) ∧ Below w.heap.size w w' :=
  (Bytes_any s w hs).mono fun e w' ⟨h1, h2⟩ => by
    rcases h1 with ⟨_, rfl⟩ | ⟨v, ys, _, rfl, ho⟩
    · exact ⟨none, 0, 0, false, rfl, h2⟩
    · obtain ⟨a, c, rfl⟩ := ho.form
      exact ⟨a, _, c, true, rfl, h2⟩
set_option maxHeartbeats 2000000 in
set_option maxRecDepth 100000 in
theorem Parse_no (s : ByteArray) (w : World) (hs : s.size ≤ 1000000000) (h : ∀ r, s.data.toList ≠ 58 :: r) :
    Calls Tryz.prog 46 #[.string s] w (ParseP w s.data.toList) := by
  have HC := Lib.hid (fun W => cut58_no s W h)
  have HB := Lib.hid (fun W => bytes_some s W hs)
  have HP : Hid (parseH s.data.toList = (3, recZ)) := by
    show _ = _
    cases hl : s.data.toList with
    | nil => rfl
    | cons c r => unfold parseH; dsimp only; rw [if_neg (fun e => h r (by rw [hl, e]))]
  clear h hs
  generalize s.data.toList = l at *
  have HB0 : Hid (Below w.heap.size w (w.alloc (.cells #[.int .i64 0, .int .i64 0, .slice none 0 0] 98))) := (Below.refl _ w).alloc (Nat.le_refl _) _
  have HK := Lib.hid (Blk.new w 98 #[.int .i64 0, .int .i64 0, .slice none 0 0])
  go_enter Tryz.func46, Tryz.ntmps46
  go_wp2_with (first
    | (go_at_call 77; refine (HC.out _).mono ?_; rintro e w1 ⟨rfl, rfl⟩)
    | (go_at_call 78; refine (HB.out _).mono ?_; rintro e w2 ⟨a, n, c, b, rfl, hb⟩; have HB2 := Lib.hid (HB0.out.trans (hb.mono HB0.out.size)); obtain ⟨k0, k1, k2, f0, f1, f2⟩ := (HK.out.below hb HK.out.lt).three; clear hb))
  exact bodyPost_ret (v := .tuple #[.agg #[.int .i64 0, .int .i64 0, .slice none 0 0], .int .i64 3]) (by simp [results, Tryz.results46, go_sem, k0, k1, k2]) rfl (ParseP.bad HP.out (((HB2.out.setCell (Nat.le_refl _) _).setCell (Nat.le_refl _) _).setCell (Nat.le_refl _) _))
end Go.Proofs.YtcfjcoockklkeaaGreatDoor
