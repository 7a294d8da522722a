/-
  decode's cursor: take, raw; bytes.Clone; num.Signed. Conditions: sizes.
-/
import Derived.Test.YtjmekllgnhkodaaGreatDoorD1
import Derived.WalkLawsBesides
namespace Go.Proofs.YtjmekllgnhkodaaGreatDoor
open Go.RowKit Go.Shelf Go.Sort

abbrev tDec : TypeId := 82
/-- the panic of a decoder that needs a further byte -/
abbrev missP : List PanicEntry := [{ v := .iface 129 (.agg #[]), recovered := false }]
set_option maxHeartbeats 2000000 in
set_option maxRecDepth 100000 in
theorem dtake_no (g : Nat) (cs : Array Value) (a : Option Addr) (m c : Nat) (k : Nat) (w : World) (h : Blk w g tDec cs) (h0 : cs[0]? = some (.slice a m c)) (h1 : cs[1]? = some (.int .i64 k)) (hk : m ≤ k) :
    Calls Tryz.prog 130 #[.pointer (some ⟨g, 0, none⟩)] w fun e w' => e = .panicked missP ∧ Below w.heap.size w w' := by
  have f0 : w.cell? ⟨g, 0, none⟩ = some (.slice a m c) := (h.cell 0).trans h0
  have f1 : w.cell? ⟨g, 1, none⟩ = some (.int .i64 k) := (h.cell 1).trans h1
  have hk' : (m : Int) ≤ (k : Int) := by omega
  clear h h0 h1 hk
  go_enter Tryz.func130, Tryz.ntmps130
  go_wp2
  go_quiet (fail)
  go_wp2

  exact ⟨rfl, rfl, below_dN (Below.refl _ _) _⟩
set_option maxHeartbeats 2000000 in
set_option maxRecDepth 100000 in
theorem dtake_yes (g : Nat) (cs : Array Value) (p : Blocks) (a : Option Addr) (c : Nat) (l : List UInt8) (k : Nat) (w : World) (h : Blk w g tDec cs) (h0 : cs[0]? = some (.slice a l.length c)) (h1 : cs[1]? = some (.int .i64 k)) (hs : SlR byteR w p (.slice a l.length c) l) (hp : ∀ b, p b → b ≠ g) (hk : k < l.length) (hl : l.length ≤ 1000000) :
    Calls Tryz.prog 130 #[.pointer (some ⟨g, 0, none⟩)] w fun e w' => e = .returned (.int .u8 (bAt l k)) ∧ Blk w' g tDec (cs.setIfInBounds 1 (.int .i64 ((k + 1 : Nat) : Int))) ∧ w.grownBy w' (some g) := by
  have f0 : w.cell? ⟨g, 0, none⟩ = some (.slice a l.length c) := (h.cell 0).trans h0
  have f1 : w.cell? ⟨g, 1, none⟩ = some (.int .i64 k) := (h.cell 1).trans h1
  have g1 : w.frozen? ⟨g, 1, none⟩ = false := h.free 1
  obtain ⟨a', c', e, _, _, gg⟩ := hs.byte
  obtain ⟨rfl, rfl⟩ : a = a' ∧ c = c' := by injection e with h1 h2 h3; exact ⟨h1, h3⟩
  obtain ⟨b, o, rfl, hb, hc⟩ := gg k l[k] (List.getElem?_eq_getElem hk)
  have hbg := hp b hb
  have hB := Lib.hid (bAt_get hk)
  have HB := Lib.hid (h.set 1 (.int .i64 ((k + 1 : Nat) : Int)))
  have k1 : IntKind.i64.wrap (k : Int) = k := by rw [IntKind.wrap_i64]; omega
  have F2 : ∀ n v, ((w.drewN n).setCell ⟨g, 1, none⟩ v).cell? ⟨b, o + k, none⟩ = some (.int .u8 l[k].toNat) := fun n v => (World.cell?_setCell_other _ _ _ _ (by simp)).trans hc
  rw [hB.out]
  clear h h0 h1 hs e gg hb hp hc hB
  generalize l[k].toNat = z at *
  generalize l.length = m at *
  have hk' : (k : Int) < (m : Int) := by omega
  go_enter Tryz.func130, Tryz.ntmps130
  go_wp2
  go_quiet (fail)
  go_wp2

  go_quiet (fail)
  go_wp2
  go_ret
  exact ⟨rfl, HB.out, ⟨rfl, rfl, rfl, by simp, fun i _ hi => Below.heap_setCell _ _ _ _ (fun e => hi (by rw [e]))⟩⟩
/-- the decoder's cells -/
def dcC (vb vq : Value) (pg op : Int) (iop : ByteArray) (va : Value) (ex : ByteArray) (al : Bool) (k : Nat) (d n : Int) : Array Value := #[vb, .int .i64 k, vq, .int .i64 pg, .int .u8 op, .string iop, va, .string ex, .bool al, .int .i64 d, .int .i64 n]
theorem SlR.cutB {w : World} {p : Blocks} {a : Option Addr} {n c m : Nat} {xs : List UInt8} (h : SlR byteR w p (.slice a n c) xs) (hm : m ≤ xs.length) : SlR byteR w p (.slice a m c) (xs.take m) ∧ n = xs.length ∧ n ≤ c ∧ c ≤ 9223372036854775807 := by
  obtain ⟨a2, c2, e, h1, h2, h3⟩ := h
  injection e with e1 e2 e3
  subst e1 e2 e3
  have hl : (xs.take m).length = m := by rw [List.length_take]; omega
  refine ⟨⟨a, c, by rw [hl], by omega, h2, fun i x hx => h3 i x ?_⟩, rfl, h1, by simpa [maxLen] using h2⟩
  rw [List.getElem?_take] at hx
  split at hx
  · exact hx
  · cases hx
theorem cut_to (ad : Addr) (len cap h : Nat) (h2 : h ≤ cap) (W : World) : (Instr.sliceAt 22 (.slice (some ad) len cap) none (some (.int .i64 (h : Int))) none).run Tryz.prog W = .ok (.slice (some ad) h cap) W := by
  rw [run_sliceAt_slice _ _ _ _ _ _ (by kernel_rfl), run_slice_h W _ (some ad) len cap (by kernel_rfl) .i64 (h : Int) (by omega) (by omega)]
  go_simp
set_option maxRecDepth 100000 in
theorem BClone_any (p : Blocks) (ad : Addr) (m c : Nat) (l : List UInt8) (w : World) (h : SlR byteR w p (.slice (some ad) m c) l) (hn : l.length ≤ 1000000) :
    Calls Tryz.prog 127 #[.slice (some ad) m c] w fun e w' => ∃ v', e = .returned v' ∧ Own byteR w' w.heap.size 5 NoB v' l ∧ Below w.heap.size w w' := by
  have HN := Lib.hid hn
  clear hn
  obtain ⟨a', c', e, _, _, _⟩ := h.byte
  obtain ⟨rfl, rfl⟩ : m = l.length ∧ c = c' := by injection e with h1 h2 h3; exact ⟨h2, h3⟩
  have HH := Lib.hid h
  clear h e
  have heq := fun wx a n c => Lib.run_eql_slice_nil (P := Tryz.prog) wx 22 5 a n c 0 0 Tryz.underlying22
  go_enter Tryz.func127, Tryz.ntmps127
  have HB : Below w.heap.size w (w.alloc (.cells #[] 5)) := (Below.refl _ _).alloc (Nat.le_refl _) _
  have HX : Hid (SlR byteR (w.alloc (.cells #[] 5)) (fun k => p k ∧ k < w.heap.size) (.slice (some ad) l.length c) l) := HH.out.old.below HB
  have HO : Hid (Own byteR (w.alloc (.cells #[] 5)) w.heap.size 5 NoB (.slice (some ⟨w.heap.size, 0, none⟩) 0 0) []) := Own.made w _ _
  have C2 : Hid (∀ k, p k ∧ k < w.heap.size → some k ≠ Value.ownBlock (.slice (some ⟨w.heap.size, 0, none⟩) 0 0)) := fun k hk e => by simp [Value.ownBlock] at e; omega
  have C3 : Hid (([] : List UInt8).length + l.length ≤ 1000000) := by have := HN.out; simp; omega
  go_wp2_with (at_builtin; refine wpList_append_R _ rfl (.tmp 5) (.tmp 6) 22 rfl w.heap.size 5 1 elByte NoB _ _ _ [] l rfl rfl HO.out HX.out (fun _ h => False.elim h) C2.out (by have := C3.out; omega) (by have := C3.out; omega) HB.size ?_; intro v' w' hap; have HAP := Lib.hid hap; clear hap)
  obtain ⟨ho, hg, _⟩ := HAP.out
  go_ret
  exact ⟨_, rfl, ho.flat NoB, HB.grown hg HB.size (fun k hk => by cases hk; exact Nat.le_refl _)⟩
set_option maxRecDepth 100000 in
theorem raw_any (g : Nat) (cs : Array Value) (p : Blocks) (ad : Addr) (c : Nat) (l : List UInt8) (n : Nat) (w : World) (h : Blk w g tDec cs) (h0 : cs[0]? = some (.slice (some ad) l.length c)) (hs : SlR byteR w p (.slice (some ad) l.length c) l) (hn : n ≤ l.length) (hl : l.length ≤ 1000000) :
    Calls Tryz.prog 85 #[.pointer (some ⟨g, 0, none⟩), .int .i64 n] w fun e w' => ∃ v', e = .returned v' ∧ Own byteR w' w.heap.size 5 NoB v' (l.take n) ∧ Below w.heap.size w w' := by
  have f0 : w.cell? ⟨g, 0, none⟩ = some (.slice (some ad) l.length c) := (h.cell 0).trans h0
  obtain ⟨hs2, _, hc, _⟩ := hs.cutB hn
  have hcut := cut_to ad l.length c n (by omega)
  have HC := Lib.hid (BClone_any p ad n c (l.take n) w hs2 (by rw [List.length_take]; omega))
  clear hs2 hs h h0
  generalize l.take n = l2 at *
  generalize l.length = m at *
  go_enter Tryz.func85, Tryz.ntmps85
  go_wp2_with (go_at_call 127; refine HC.out.mono ?_; rintro e w1 ⟨v1, rfl, ho, hb⟩; have H1 := Lib.hid ho; have H2 := Lib.hid hb; clear ho hb)
  go_ret
  exact ⟨_, rfl, H1.out, H2.out⟩
theorem sg_wrap {b : Nat} (hb : b < 256) : IntKind.i8.wrap (b : Int) = sg b ∧ IntKind.i64.wrap (sg b) = sg b := by
  unfold sg
  constructor
  · have h8 : (2 : Int) ^ IntKind.i8.bits = 256 := by decide
    have h7 : (2 : Int) ^ (IntKind.i8.bits - 1) = 128 := by decide
    have hm : (b : Int) % 256 = b := by omega
    have hs : IntKind.i8.signed = true := rfl
    simp only [IntKind.wrap, h8, h7, hm, hs, Bool.true_and, decide_eq_true_eq]
    by_cases h : 128 ≤ b
    · rw [if_pos h, if_pos (by omega)]
    · rw [if_neg h, if_neg (by omega)]
  · rw [IntKind.wrap_i64]; split <;> omega
theorem signed_any (b : Nat) (hb : b < 256) (w : World) : Calls Tryz.prog 169 #[.int .u8 b] w fun e w' => e = .returned (.int .i64 (sg b)) ∧ w' = w := by
  obtain ⟨h1, h2⟩ := sg_wrap hb
  go_enter Tryz.func169, Tryz.ntmps169
  go_wp2
  go_ret
  exact ⟨rfl, rfl⟩
theorem signed01_any (b : Nat) (hb : b < 256) (w : World) : Calls Tryz.prog 53 #[.int .u8 b] w fun e w' => e = .returned (.int .i64 (sg b)) ∧ w' = w := by
  cases h : decide (128 ≤ b)
  · have h := of_decide_eq_false h
    have hs : sg b = b := by unfold sg; rw [if_neg h]
    rw [hs]
    have h3 : ¬ ((128 : Int) ≤ (b : Int)) := by omega
    have h4 : IntKind.i64.wrap (b : Int) = b := by rw [IntKind.wrap_i64]; omega
    clear hs h
    go_enter Tryz.func53, Tryz.ntmps53
    go_wp2
    go_ret
    exact ⟨rfl, rfl⟩
  · have h := of_decide_eq_true h
    have hs : sg b = (b : Int) - 256 := by unfold sg; rw [if_pos h]
    rw [hs]
    have h3 : (128 : Int) ≤ (b : Int) := by omega
    have h4 : IntKind.i64.wrap (b : Int) = b := by rw [IntKind.wrap_i64]; omega
    have h5 : IntKind.i64.wrap ((b : Int) - 256) = (b : Int) - 256 := by rw [IntKind.wrap_i64]; omega
    clear hs h
    go_enter Tryz.func53, Tryz.ntmps53
    go_wp2
    go_ret
    exact ⟨rfl, rfl⟩
end Go.Proofs.YtjmekllgnhkodaaGreatDoor
