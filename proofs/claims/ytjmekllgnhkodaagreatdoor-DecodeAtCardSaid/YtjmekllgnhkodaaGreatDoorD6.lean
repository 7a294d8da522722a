/-
  breadboardref12: page, item. Conditions: sizes.
-/
import Derived.Test.YtjmekllgnhkodaaGreatDoorD4
namespace Go.Proofs.YtjmekllgnhkodaaGreatDoor
open Go.RowKit Go.Shelf Go.Sort

theorem byteAt {w : World} {p : Blocks} {a : Option Addr} {c : Nat} {l : List UInt8} (hs : SlR byteR w p (.slice a l.length c) l) (h0 : 0 < l.length) : ∃ b o, a = some ⟨b, o, none⟩ ∧ l.length ≤ c ∧ c ≤ 9223372036854775807 ∧ ∀ k, k < l.length → w.cell? ⟨b, o + k, none⟩ = some (.int .u8 (bAt l k)) := by
  obtain ⟨a', c', e, h1, h2, gg⟩ := hs.byte
  injection e with e1 e2 e3
  subst e1 e3
  obtain ⟨b, o, rfl, _, _⟩ := gg 0 l[0] (List.getElem?_eq_getElem h0)
  refine ⟨b, o, rfl, h1, h2, fun k hk => ?_⟩
  obtain ⟨b', o', e, _, hc⟩ := gg k l[k] (List.getElem?_eq_getElem hk)
  injection e with e; injection e with e1 e2
  subst e1 e2
  rw [hc, bAt_get hk]
set_option maxHeartbeats 4000000 in
set_option maxRecDepth 100000 in
theorem page_any (p : Blocks) (a : Option Addr) (c : Nat) (l : List UInt8) (w : World) (hs : SlR byteR w p (.slice a l.length c) l) (h0 : 0 < l.length) (hl : l.length ≤ 1000000) :
    Calls Tryz.prog 50 #[.slice a l.length c] w fun e w' => e = .returned (.tuple #[.int .i64 (pgB l), .int .i64 (pos (pgB l))]) ∧ w' = w := by
  obtain ⟨b, o, rfl, _, _, hc⟩ := byteAt hs h0
  have c0 := hc 0 h0
  have c1 := hc 1
  have P1 : pos 1 = 1 := rfl
  have P2 : pos 2 = 1 := rfl
  have P3 : pos 3 = 1 := rfl
  have P4 : pos 4 = 1 := rfl
  have P5 : pos 5 = 3 := rfl
  have P6 : pos 6 = 3 := rfl
  have P0 : pos 0 = 0 := rfl
  have h0' : (0 : Int) < (l.length : Int) := by omega
  unfold pgB
  generalize bAt l 0 = x at *
  generalize bAt l 1 = y at *
  generalize l.length = m at *
  rw [Nat.add_zero] at c0
  have key : ∀ (r : Nat) (q : Nat), (if x = 203 then 1 else if x = 237 then 2 else if x = 221 then (if 1 < m ∧ y = 203 then 5 else 3) else if x = 253 then (if 1 < m ∧ y = 203 then 6 else 4) else 0 : Nat) = r → pos r = q → Calls Tryz.prog 50 #[.slice (some ⟨b, o, none⟩) m c] w (fun e w' => e = .returned (.tuple #[.int .i64 r, .int .i64 q]) ∧ w' = w) → Calls Tryz.prog 50 #[.slice (some ⟨b, o, none⟩) m c] w fun e w' => e = .returned (.tuple #[.int .i64 ((if x = 203 then 1 else if x = 237 then 2 else if x = 221 then (if 1 < m ∧ y = 203 then 5 else 3) else if x = 253 then (if 1 < m ∧ y = 203 then 6 else 4) else 0 : Nat)), .int .i64 (pos (if x = 203 then 1 else if x = 237 then 2 else if x = 221 then (if 1 < m ∧ y = 203 then 5 else 3) else if x = 253 then (if 1 < m ∧ y = 203 then 6 else 4) else 0 : Nat))]) ∧ w' = w := by
    rintro r q rfl rfl h; exact h
  clear hs hc
  by_cases h1 : x = 203
  · refine key 1 1 (by rw [if_pos h1]) rfl ?_
    subst h1
    clear key P0 P1 P2 P3 P4 P5 P6
    go_enter Tryz.func50, Tryz.ntmps50
    go_wp2
    go_ret2
    exact ⟨rfl, rfl⟩
  by_cases h2 : x = 237
  · refine key 2 1 (by rw [if_neg h1, if_pos h2]) rfl ?_
    subst h2
    clear key P0 P1 P2 P3 P4 P5 P6
    go_enter Tryz.func50, Tryz.ntmps50
    go_wp2
    go_ret2
    exact ⟨rfl, rfl⟩
  by_cases h3 : x = 221
  · by_cases h5 : 1 < m
    · have c1 := c1 h5
      have h5' : (1 : Int) < (m : Int) := by omega
      by_cases h6 : y = 203
      · refine key 5 3 (by rw [if_neg h1, if_neg h2, if_pos h3, if_pos ⟨h5, h6⟩]) rfl ?_
        subst h3 h6
        clear key P0 P1 P2 P3 P4 P5 P6
        go_enter Tryz.func50, Tryz.ntmps50
        go_wp2
        go_ret2
        exact ⟨rfl, rfl⟩
      · refine key 3 1 (by rw [if_neg h1, if_neg h2, if_pos h3, if_neg (by omega)]) rfl ?_
        have h6' : ((y : Int) == 203) = false := by rw [beq_eq_false_iff_ne]; omega
        subst h3
        clear key P0 P1 P2 P3 P4 P5 P6 h6
        go_enter Tryz.func50, Tryz.ntmps50
        go_wp2
        go_ret2
        exact ⟨rfl, rfl⟩
    · refine key 3 1 (by rw [if_neg h1, if_neg h2, if_pos h3, if_neg (by omega)]) rfl ?_
      obtain rfl : m = 1 := by omega
      subst h3
      clear key P0 P1 P2 P3 P4 P5 P6 c1
      go_enter Tryz.func50, Tryz.ntmps50
      go_wp2
      go_ret2
      exact ⟨rfl, rfl⟩
  by_cases h4 : x = 253
  · by_cases h5 : 1 < m
    · have c1 := c1 h5
      have h5' : (1 : Int) < (m : Int) := by omega
      by_cases h6 : y = 203
      · refine key 6 3 (by rw [if_neg h1, if_neg h2, if_neg h3, if_pos h4, if_pos ⟨h5, h6⟩]) rfl ?_
        subst h4 h6
        clear key P0 P1 P2 P3 P4 P5 P6
        go_enter Tryz.func50, Tryz.ntmps50
        go_wp2
        go_ret2
        exact ⟨rfl, rfl⟩
      · refine key 4 1 (by rw [if_neg h1, if_neg h2, if_neg h3, if_pos h4, if_neg (by omega)]) rfl ?_
        have h6' : ((y : Int) == 203) = false := by rw [beq_eq_false_iff_ne]; omega
        subst h4
        clear key P0 P1 P2 P3 P4 P5 P6 h6
        go_enter Tryz.func50, Tryz.ntmps50
        go_wp2
        go_ret2
        exact ⟨rfl, rfl⟩
    · refine key 4 1 (by rw [if_neg h1, if_neg h2, if_neg h3, if_pos h4, if_neg (by omega)]) rfl ?_
      obtain rfl : m = 1 := by omega
      subst h4
      clear key P0 P1 P2 P3 P4 P5 P6 c1
      go_enter Tryz.func50, Tryz.ntmps50
      go_wp2
      go_ret2
      exact ⟨rfl, rfl⟩
  · refine key 0 0 (by rw [if_neg h1, if_neg h2, if_neg h3, if_neg h4]) rfl ?_
    have h1' : ¬ (x : Int) = 203 := by omega
    have h2' : ¬ (x : Int) = 237 := by omega
    have h3' : ¬ (x : Int) = 221 := by omega
    have h4' : ¬ (x : Int) = 253 := by omega
    clear key P0 P1 P2 P3 P4 P5 P6 h1 h2 h3 h4
    go_enter Tryz.func50, Tryz.ntmps50
    go_wp2
    go_ret2
    exact ⟨rfl, rfl⟩
theorem Own.off {α : Type} {R : Rep α} {w : World} {B b : Nat} {e : TypeId} {v : Value} {xs : List α} (h : Own R w B e NoB v xs) (hb : b < B) (i : Nat) (u : Value) : Own R (w.setCell ⟨b, i, none⟩ u) B e NoB v xs :=
  h.keep (Keep.setCell (fun k hk => by rcases hk with hk | hk; exact hk.elim; have := (h.lt k hk).1; show k ≠ b; omega) _)
theorem item_end {fn : Func} {p : Tmp} (h : fn.results = #[.cell p 29]) {tmps : Array Value} {w' : World} {cs : Array Value} {g : Nat} (hp : tmps.getD p undef = .pointer (some ⟨g, 0, none⟩)) (hg : Blk w' g 29 cs) (hs : cs.size = 5) : (results fn tmps).run Tryz.prog w' = .ok (.agg cs) w' :=
  results_row1 h tmps w' g 29 _ (0, 0) _ hp hg Tryz.underlying29 rfl (by rw [hs]; kernel_rfl)
abbrev itm0 : Array Value := #[.int .i64 0, .slice none 0 0, .string ⟨#[]⟩, .slice none 0 0, .bool false]
set_option maxHeartbeats 4000000 in
set_option maxRecDepth 100000 in
theorem item12_any (k : Int) (p : Blocks) (ad : Addr) (c : Nat) (l : List UInt8) (n : Nat) (w : World) (hs : SlR byteR w p (.slice (some ad) l.length c) l) (hn : n ≤ l.length) (hl : l.length ≤ 1000000) :
    Calls Tryz.prog 52 #[.int .i64 k, .slice (some ad) l.length c, .int .i64 n] w fun e w' => ∃ a cc, e = .returned (.agg #[.int .i64 k, .slice a (l.take n).length cc, .string ⟨#[]⟩, .slice none 0 0, .bool false]) ∧ Own byteR w' w.heap.size 5 NoB (.slice a (l.take n).length cc) (l.take n) ∧ RowKit.Below w.heap.size w w' := by
  obtain ⟨hs2, _, hc, _⟩ := hs.cutB hn
  have hcut := cut_to ad l.length c n (by omega)
  have HLT : Hid ((l.take n).length = n) := Lib.hid (by rw [List.length_take]; omega)
  have HN : Hid ((l.take n).length ≤ 1000000) := Lib.hid (by rw [HLT.out]; omega)
  have HS2 := Lib.hid hs2
  have HZ : Hid ((w.alloc (.cells itm0 29)).heap.size = w.heap.size + 1) := Lib.hid (World.size_alloc _ _)
  have HI := Lib.hid (Blk.new w 29 itm0)
  have HB := Lib.hid ((Below.refl w.heap.size w).alloc (Nat.le_refl _) (.cells itm0 29))
  have HX : Hid (SlR byteR ((w.alloc (.cells itm0 29)).alloc (.cells #[] 5)) (fun k => p k ∧ k < w.heap.size) (.slice (some ad) n c) (l.take n)) := Lib.hid (hs2.old.keep (Keep.of_below (((Below.refl w.heap.size w).alloc (Nat.le_refl _) (.cells itm0 29)).alloc (by rw [World.size_alloc]; omega) _) (fun k hk => hk.2)))
  clear hs2 hs
  generalize l.take n = l2 at *
  generalize l.length = m at *
  obtain rfl := HLT.out
  obtain ⟨W0, hW0⟩ : ∃ W : World, W = w.alloc (.cells itm0 29) := ⟨_, rfl⟩
  rw [← hW0] at HI HB HX HZ
  go_enter Tryz.func52, Tryz.ntmps52
  go_upto_region 1 with fail
  rw [← hW0]
  clear hW0
  have HB2 : Hid (RowKit.Below w.heap.size w (W0.alloc (.cells #[] 5))) := Lib.hid (HB.out.alloc HB.out.size _)
  have HI2 : Hid (Blk (W0.alloc (.cells #[] 5)) w.heap.size 29 itm0) := Lib.hid (HI.out.alloc _)
  have HO : Hid (Own byteR (W0.alloc (.cells #[] 5)) W0.heap.size 5 NoB (.slice (some ⟨W0.heap.size, 0, none⟩) 0 0) []) := Own.made W0 _ _
  have C2 : Hid (∀ k, p k ∧ k < w.heap.size → some k ≠ Value.ownBlock (.slice (some ⟨W0.heap.size, 0, none⟩) 0 0)) := fun k hk e => by simp [Value.ownBlock] at e; have := HZ.out; omega
  have C3 : Hid (([] : List UInt8).length + l2.length ≤ 1000000) := by have := HN.out; simp; omega
  have HZ2 : Hid (W0.heap.size ≤ (W0.alloc (.cells #[] 5)).heap.size) := Lib.hid (by rw [World.size_alloc]; omega)
  go_wp2_with (at_builtin; refine wpList_append_R _ rfl (.tmp 8) (.tmp 11) 22 rfl W0.heap.size 5 1 elByte NoB _ _ _ [] l2 rfl rfl HO.out HX.out (fun _ h => False.elim h) C2.out (by have := C3.out; omega) (by have := C3.out; omega) HZ2.out ?_; intro v' w' hap; obtain ⟨ho, hg, hv⟩ := hap; obtain ⟨qa, qc, rfl⟩ := (ho.flat NoB).form; have HO3 := Lib.hid (ho.flat NoB); have HI3 := Lib.hid (HI2.out.grown hg (fun e => by have e2 : w.heap.size = W0.heap.size := Option.some.inj e; have := HZ.out; omega)); have HB3 := Lib.hid (HB2.out.grown hg HB2.out.size (fun k e => by have e2 : W0.heap.size = k := Option.some.inj e; have := HZ.out; omega)); obtain ⟨⟨c0, c1, c2, c3, c4⟩, f0, f1, f2, f3, f4⟩ := HI3.out.five; clear ho hg hv)
  have HF := Lib.hid (((((HI3.out.set 0 (.int .i64 k)).set 1 (.slice qa l2.length qc)).set 2 (.string ⟨#[]⟩)).set 3 (.slice none 0 0)).set 4 (.bool false))
  have hb : w.heap.size < W0.heap.size := by have := HZ.out; omega
  refine bodyPost_ret (item_end rfl rfl HF.out rfl) rfl ⟨qa, qc, rfl, ?_, ?_⟩
  · exact Own.base (B := W0.heap.size) (((((HO3.out.off hb 0 _).off hb 1 _).off hb 2 _).off hb 3 _).off hb 4 _) (by omega)
  · exact ((((HB3.out.setCell (p := ⟨w.heap.size, 0, none⟩) (Nat.le_refl _) _).setCell (p := ⟨w.heap.size, 1, none⟩) (Nat.le_refl _) _).setCell (p := ⟨w.heap.size, 2, none⟩) (Nat.le_refl _) _).setCell (p := ⟨w.heap.size, 3, none⟩) (Nat.le_refl _) _).setCell (p := ⟨w.heap.size, 4, none⟩) (Nat.le_refl _) _
end Go.Proofs.YtjmekllgnhkodaaGreatDoor
