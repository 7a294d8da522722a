/-
  decode.At. Conditions: the library's table as its initialiser lays it; sizes.
-/
import Derived.Test.YtjmekllgnhkodaaGreatDoorD13
namespace Go.Proofs.YtjmekllgnhkodaaGreatDoor
open Go.RowKit Go.Shelf Go.Sort

theorem at_end {fn : Func} {p u v : Tmp} (h : fn.results = #[.cell p 29, .tmp u, .tmp v]) {tmps : Array Value} {w' : World} {g : Nat} {v0 v1 v2 v3 v4 : Value} (hp : tmps.getD p undef = .pointer (some ⟨g, 0, none⟩)) (hg : Blk w' g 29 #[v0, v1, v2, v3, v4]) : (results fn tmps).run Tryz.prog w' = .ok (.tuple #[.agg #[v0, v1, v2, v3, v4], tmps.getD u undef, tmps.getD v undef]) w' := by
  obtain ⟨⟨c0, c1, c2, c3, c4⟩, _⟩ := hg.five
  have hp' : tmps[p]?.getD undef = .pointer (some ⟨g, 0, none⟩) := by simpa using hp
  simp [results, h, hp', go_sem, c0, c1, c2, c3, c4]
set_option maxHeartbeats 4000000 in
set_option maxRecDepth 100000 in
theorem At_no (a : Option Addr) (c : Nat) (m : Nat) (i : Int) (w : World) (h : i < 0 ∨ (m : Int) ≤ i) :
    Calls Tryz.prog 22 #[.slice a m c, .int .i64 i] w fun e w' => e = .returned (.tuple #[.agg itm0, .int .i64 0, .bool false]) ∧ RowKit.Below w.heap.size w w' := by
  have HF0 := Lib.hid ((Fr.start w).new 29 itm0)
  obtain ⟨W0, hW0⟩ : ∃ W : World, W = w.alloc (.cells itm0 29) := ⟨_, rfl⟩
  rw [← hW0] at HF0
  cases h1 : decide (i < 0)
  · have h1 := of_decide_eq_false h1
    have h2 : (m : Int) ≤ i := h.resolve_left h1
    clear h
    go_enter Tryz.func22, Tryz.ntmps22
    go_upto_region 1 with fail
    rw [← hW0]
    clear hW0
    obtain ⟨⟨c0, c1, c2, c3, c4⟩, f0, f1, f2, f3, f4⟩ := (HF0.out.blk 0 rfl).five
    go_wp2
    have F5 := Lib.hid (HF0.out.set5 (Nat.le_refl _) (fun x hx => by cases hx) (.int .i64 0) (.slice none 0 0) (.string ⟨#[]⟩) (.slice none 0 0) (.bool false))
    exact bodyPost_ret (at_end rfl rfl (F5.out.blk 0 rfl)) rfl ⟨rfl, F5.out.below⟩
  · have h1 := of_decide_eq_true h1
    clear h
    go_enter Tryz.func22, Tryz.ntmps22
    go_upto_region 1 with fail
    rw [← hW0]
    clear hW0
    obtain ⟨⟨c0, c1, c2, c3, c4⟩, f0, f1, f2, f3, f4⟩ := (HF0.out.blk 0 rfl).five
    go_wp2
    have F5 := Lib.hid (HF0.out.set5 (Nat.le_refl _) (fun x hx => by cases hx) (.int .i64 0) (.slice none 0 0) (.string ⟨#[]⟩) (.slice none 0 0) (.bool false))
    exact bodyPost_ret (at_end rfl rfl (F5.out.blk 0 rfl)) rfl ⟨rfl, F5.out.below⟩
set_option maxHeartbeats 4000000 in
set_option maxRecDepth 100000 in
theorem At_yes (p : Blocks) (a : Option Addr) (c : Nat) (l : List UInt8) (k : Nat) (w : World) (hT : Spc w) (hs : SlR byteR w p (.slice a l.length c) l) (hk : k < l.length) (hl : l.length ≤ 1000000) :
    Calls Tryz.prog 22 #[.slice a l.length c, .int .i64 k] w fun e w' => (∃ v, e = .returned (.tuple #[v, .int .i64 ((k : Int) + ((l.drop k).take (itF (l.drop k)).n).length), .bool true]) ∧ ItmR w' w.heap.size (itF (l.drop k)) (l.drop k) v) ∧ RowKit.Below w.heap.size w w' := by
  obtain ⟨b, o, rfl, hc1, hc2, _⟩ := byteAt hs (by omega)
  have hcut := cut_from b o l.length c k (by omega) (by omega)
  have hlen : (l.drop k).length = l.length - k := List.length_drop
  rw [← hlen] at hcut
  have HFI := Lib.hid (fun W (hb : RowKit.Below w.heap.size w W) => First_any p (some ⟨b, o + k, none⟩) (c - k) (l.drop k) W (hT.below hb) ((hs.dropB (by omega)).below hb) (by omega) (by omega))
  have HLN : Hid (((l.drop k).take (itF (l.drop k)).n).length ≤ l.length - k) := Lib.hid (by rw [List.length_take]; omega)
  have HL := Lib.hid hl
  have HF0 := Lib.hid ((Fr.start w).new 29 itm0)
  have hk' : ¬ (l.length : Int) ≤ (k : Int) := by omega
  have hk0 : ¬ (k : Int) < 0 := by omega
  have HKL := Lib.hid hk
  clear hT hs hk hl hlen hc1 hc2
  generalize l.drop k = L at *
  generalize l.length = m at *
  obtain ⟨R1, hR1⟩ : ∃ R, R = L.take (itF L).n := ⟨_, rfl⟩
  rw [← hR1] at HLN ⊢
  have HR1 := Lib.hid hR1
  clear hR1
  have hw9 : IntKind.i64.wrap ((k : Int) + R1.length) = (k : Int) + R1.length := by have := HLN.out; have := HL.out; have := HKL.out; rw [IntKind.wrap_i64]; omega
  obtain ⟨W0, hW0⟩ : ∃ W : World, W = w.alloc (.cells itm0 29) := ⟨_, rfl⟩
  rw [← hW0] at HF0
  go_enter Tryz.func22, Tryz.ntmps22
  go_upto_region 1 with fail
  rw [← hW0]
  clear hW0
  go_upto_region 4 with (go_at_call 17; refine (HFI.out _ HF0.out.below).mono ?_; rintro e w1 ⟨⟨v, rfl, hi⟩, hb⟩; obtain ⟨ra, rc, va, vc, rfl, h1, h2⟩ := hi; rw [← HR1.out] at h1 ⊢; have H1 := Lib.hid h1; have H2 := Lib.hid h2; have HF1 := Lib.hid (HF0.out.next hb); clear h1 h2 hb; unfold itmV)
  have HF2 := Lib.hid ((HF1.out.new' 29 #[.int .i64 (itF L).k, .slice ra R1.length rc, .string ⟨(itF L).op.toArray⟩, .slice va (itF L).args.length vc, .bool (itF L).al] (b := w1.heap.size) rfl))
  have HZ : Hid (w.heap.size < w1.heap.size) := Lib.hid ((HF1.out.blk 0 rfl).lt)
  have HZ0 : Hid (w.heap.size < W0.heap.size) := Lib.hid ((HF0.out.blk 0 rfl).lt)
  have HA1 := Lib.hid (H1.out.alloc (.cells #[.int .i64 (itF L).k, .slice ra R1.length rc, .string ⟨(itF L).op.toArray⟩, .slice va (itF L).args.length vc, .bool (itF L).al] 29))
  have HA2 := Lib.hid (H2.out.alloc (.cells #[.int .i64 (itF L).k, .slice ra R1.length rc, .string ⟨(itF L).op.toArray⟩, .slice va (itF L).args.length vc, .bool (itF L).al] 29))
  generalize w1.alloc (.cells #[.int .i64 (itF L).k, .slice ra R1.length rc, .string ⟨(itF L).op.toArray⟩, .slice va (itF L).args.length vc, .bool (itF L).al] 29) = W2 at *
  generalize w1.heap.size = tb at *
  obtain ⟨⟨c0, c1, c2, c3, c4⟩, _⟩ := (HF2.out.blk 0 rfl).five
  obtain ⟨⟨m0, m1, m2, m3, m4⟩, g0, g1, g2, g3, g4⟩ := (HF2.out.blk 1 rfl).five
  have hne1 : ¬ tb = w.heap.size := by have := HZ.out; omega
  have hne2 : ¬ w.heap.size = tb := by have := HZ.out; omega
  go_region
  all_goals go_wp2
  all_goals have F5 := Lib.hid (HF2.out.swap.set5 (Nat.le_refl _) (fun x hx => by rw [List.mem_singleton.1 hx]; have := HZ.out; show tb ≠ w.heap.size; omega) (.int .i64 (itF L).k) (.slice ra R1.length rc) (.string ⟨(itF L).op.toArray⟩) (.slice va (itF L).args.length vc) (.bool (itF L).al))
  all_goals have HM : ItmR W2 W0.heap.size (itF L) L (.agg #[.int .i64 (itF L).k, .slice ra R1.length rc, .string ⟨(itF L).op.toArray⟩, .slice va (itF L).args.length vc, .bool (itF L).al]) := ⟨ra, rc, va, vc, by rw [← HR1.out]; rfl, by rw [← HR1.out]; exact HA1.out, HA2.out⟩
  all_goals have F6 := Lib.hid F5.out.drew
  all_goals exact bodyPost_ret (at_end rfl rfl (F6.out.blk 0 rfl)) rfl ⟨⟨_, rfl, ((HM.off5 HZ0.out _ _ _ _ _).next (Below.refl _ _).drew).base (Nat.le_of_lt HZ0.out)⟩, F6.out.below⟩
end Go.Proofs.YtjmekllgnhkodaaGreatDoor
