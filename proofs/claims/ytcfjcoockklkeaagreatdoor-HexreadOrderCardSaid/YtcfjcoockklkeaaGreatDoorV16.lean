/-
  hexread's reader: data, end, line. Conditions: the line's size; the library's table as its initialiser lays it.
-/
import Derived.Test.YtcfjcoockklkeaaGreatDoorV15
namespace Go.Proofs.YtcfjcoockklkeaaGreatDoor
open Go.RowKit

/-- the reader: its image and whether the End has come -/
structure RdS (w0 w : World) (rb ib : Nat) (S : ImgS) (en : Bool) (n : Nat) : Prop where
  blk : Blk w rb 52 #[.pointer (some ⟨ib, 0, none⟩), .bool en]
  img : ImgC w ib S.1 S.2 n
  at_ : w0.heap.size ≤ ib
  ne : ib < rb
  below : Below w0.heap.size w0 w
  cnt : n = (cellsOf S.1 S.2).length
theorem RdS.later {w0 w w' : World} {rb ib n : Nat} {S : ImgS} {en : Bool} (h : RdS w0 w rb ib S en n) (hb : Below w.heap.size w w') : RdS w0 w' rb ib S en n :=
  ⟨h.blk.below hb h.blk.lt, h.img.below hb h.img.lt, h.at_, h.ne, h.below.trans (hb.mono h.below.size), h.cnt⟩
theorem put02_len {m : List CellV} {a : Int} {l : List UInt8} (h : (put02 m a l).2 = 0) : (put02 m a l).1.length = m.length + l.length := by
  unfold put02 at h ⊢
  split at h
  · cases h
  · split at h
    · cases h
    · split at h
      · rename_i h1 h2 h3
        rw [if_neg h1, if_neg h2, if_pos h3, h3]; rfl
      · split at h
        · cases h
        · rename_i h1 h2 h3 h4
          rw [if_neg h1, if_neg h2, if_neg h3, if_neg h4]
          simp only [List.length_append, List.length_take, List.length_drop, cellsF_len]
          omega
theorem put_len {d : Nat → Bool} {v : Nat → UInt8} {a : Int} {l : List UInt8} (h : putCode d a l.length = 0) : (cellsOf (imgPut d v a l).1 (imgPut d v a l).2).length = (cellsOf d v).length + l.length := by
  have hm := put_match d v a l
  have h1 : (put02 (cellsOf d v) a l).2 = 0 := by rw [hm]; exact h
  have h2 := put02_len h1
  rw [hm] at h2
  exact h2
theorem RdS.put {w0 w w' : World} {rb ib n : Nat} {S : ImgS} {en : Bool} {a : Int} {l : List UInt8} (h : RdS w0 w rb ib S en n) (hp : Put w' ib n S.1 S.2 a l) (hg : w.grownBy w' (some ib)) : ∃ n', n' ≤ n + l.length ∧ RdS w0 w' rb ib (imgPut S.1 S.2 a l) en n' := by
  have hb := h.blk.grown hg (fun e => by injection e with e; have := h.ne; omega)
  have hbl := h.below.grown hg h.below.size (fun g e => by injection e with e; have := h.at_; omega)
  by_cases hc : putCode S.1 a l.length = 0
  · refine ⟨n + l.length, Nat.le_refl _, hb, ?_, h.at_, h.ne, hbl, ?_⟩
    · unfold Put at hp
      unfold imgPut
      rw [if_pos hc] at hp ⊢
      exact hp
    · rw [put_len hc, h.cnt]
  · refine ⟨n, Nat.le_add_right _ _, hb, ?_, h.at_, h.ne, hbl, ?_⟩
    · unfold Put at hp
      unfold imgPut
      rw [if_neg hc] at hp ⊢
      exact hp
    · unfold imgPut
      rw [if_neg hc]
      exact h.cnt
theorem RdS.fin {w0 w : World} {rb ib n : Nat} {S : ImgS} {en : Bool} (h : RdS w0 w rb ib S en n) : RdS w0 (w.setCell ⟨rb, 1, none⟩ (.bool true)) rb ib S true n := by
  have hb := Below.heap_setCell w ⟨rb, 1, none⟩ (.bool true) ib (show ib ≠ rb from Nat.ne_of_lt h.ne)
  refine ⟨h.blk.set 1 _, ⟨fun i hx => ?_, ?_, fun a ha => ?_, fun o => ?_⟩, h.at_, h.ne, h.below.setCell (p := ⟨rb, 1, none⟩) (Nat.le_trans h.at_ (Nat.le_of_lt h.ne)) _, h.cnt⟩
  · have := h.img.words i hx; unfold World.cell? at this ⊢; rw [hb]; exact this
  · have := h.img.count; unfold World.cell? at this ⊢; rw [hb]; exact this
  · have := h.img.bytes a ha; unfold World.cell? at this ⊢; rw [hb]; exact this
  · have := h.img.free o; unfold World.frozen? at this ⊢; rw [hb]; exact this
set_option maxHeartbeats 2000000 in
set_option maxRecDepth 100000 in
theorem data_any (w0 : World) (rb ib n : Nat) (S : ImgS) (en : Bool) (t a : Nat) (q : Blocks) (vb : Value) (l : List UInt8) (w : World) (h : RdS w0 w rb ib S en n) (hs : SlR byteR w q vb l) (hT : Deb w) (hn : n ≤ 900000000) (ha : a ≤ 65535) (hl : l.length ≤ 255) :
    Calls Tryz.prog 47 #[.pointer (some ⟨rb, 0, none⟩), .agg #[.int .i64 t, .int .i64 a, vb]] w fun e w' => e = .returned (.int .i64 (putCode S.1 a l.length)) ∧ (∃ n', n' ≤ n + 255 ∧ RdS w0 w' rb ib (imgPut S.1 S.2 a l) en n') ∧ w.grownBy w' (some ib) := by
  obtain ⟨sa, c, rfl, _⟩ := hs.byte
  have hal := ((Below.refl w.heap.size w).alloc (Nat.le_refl _) (.cells #[.int .i64 (t : Int), .int .i64 (a : Int), .slice sa l.length c] 98)).drew
  have hr := h.later hal
  have HPUT := Lib.hid (Put_any ib n (a : Int) _ _ _ _ l _ hr.img hn (hs.below hal) (hT.below hal) (by omega) (by omega) (by omega))
  have HR := Lib.hid hr
  have HK := Lib.hid (Blk.new w 98 #[.int .i64 (t : Int), .int .i64 (a : Int), .slice sa l.length c])
  obtain ⟨d0, d1, _, _⟩ := h.blk.two
  have HIL : Hid (ib < w.heap.size) := h.img.lt
  have HRB : Hid (ib ≠ rb ∧ rb < w.heap.size) := ⟨Nat.ne_of_lt h.ne, h.blk.lt⟩
  have HLL := Lib.hid hl
  have e0 : (w.alloc (.cells #[.int .i64 (t : Int), .int .i64 (a : Int), .slice sa l.length c] 98)).cell? ⟨rb, 0, none⟩ = some (.pointer (some ⟨ib, 0, none⟩)) := (World.cell?_alloc_old _ _ _ (Nat.ne_of_lt h.blk.lt)).trans d0
  clear h hs hT hn ha hl hal hr d0 d1
  go_enter Tryz.func47, Tryz.ntmps47
  go_wp2
  go_region_held3 (fun w' => w'.cell? ⟨rb, 0, none⟩ = some (.pointer (some ⟨ib, 0, none⟩)) ∧ w'.cell? ⟨w.heap.size, 1, none⟩ = some (.int .i64 (a : Int)) ∧ w'.cell? ⟨w.heap.size, 2, none⟩ = some (.slice sa l.length c)) (go_keep)
    (first
      | (go_at_call 33; refine HPUT.out.mono ?_; rintro e w2 ⟨rfl, hp, hg⟩; have HP := Lib.hid hp; have HG := Lib.hid hg; have hb1 := hg.block rb (Nat.lt_of_lt_of_le HRB.out.2 (by show _ ≤ (World.alloc _ _).heap.size; rw [World.size_alloc]; omega)) (fun e => HRB.out.1 (by injection e with e; exact e.symm)); have hb2 := hg.block w.heap.size (by show _ < (World.alloc _ _).heap.size; rw [World.size_alloc]; omega) (fun e => by injection e with e; have := HIL.out; omega); have q0 : w2.cell? ⟨rb, 0, none⟩ = some (.pointer (some ⟨ib, 0, none⟩)) := (World.cell?_of_block (w := (w.alloc (.cells #[.int .i64 (t : Int), .int .i64 (a : Int), .slice sa l.length c] 98)).drew) hb1).trans e0; have q1 : w2.cell? ⟨w.heap.size, 1, none⟩ = some (.int .i64 (a : Int)) := (World.cell?_of_block (w := (w.alloc (.cells #[.int .i64 (t : Int), .int .i64 (a : Int), .slice sa l.length c] 98)).drew) hb2).trans (HK.out.cell 1); have q2 : w2.cell? ⟨w.heap.size, 2, none⟩ = some (.slice sa l.length c) := (World.cell?_of_block (w := (w.alloc (.cells #[.int .i64 (t : Int), .int .i64 (a : Int), .slice sa l.length c] 98)).drew) hb2).trans (HK.out.cell 2); clear hp hg hb1 hb2))
  go_wp2
  go_ret
  obtain ⟨n', hn', hr2⟩ := HR.out.put HP.out HG.out
  exact ⟨rfl, ⟨n', by have := HLL.out; omega, hr2⟩, grown_step ((World.grownBy_alloc w _ _)) ⟨HG.out.os, HG.out.tape, HG.out.output, HG.out.size, HG.out.block⟩⟩
set_option maxHeartbeats 1000000 in
theorem end_any (w0 : World) (rb ib n : Nat) (S : ImgS) (en : Bool) (t a : Nat) (q : Blocks) (vb : Value) (l : List UInt8) (w : World) (h : RdS w0 w rb ib S en n) (hs : SlR byteR w q vb l) (hl : l.length ≤ 255) :
    Calls Tryz.prog 48 #[.pointer (some ⟨rb, 0, none⟩), .agg #[.int .i64 t, .int .i64 a, vb]] w fun e w' => e = .returned (.int .i64 (if l = [] then 0 else 6)) ∧ RdS w0 w' rb ib S (if l = [] then true else en) n ∧ w.grownBy w' (some rb) := by
  obtain ⟨sa, c, rfl, _⟩ := hs.byte
  have hal := (Below.refl w.heap.size w).alloc (Nat.le_refl _) (.cells #[.int .i64 (t : Int), .int .i64 (a : Int), .slice sa l.length c] 98)
  have HR := Lib.hid (h.later hal)
  have hl1 : (l.length : Int) ≤ 255 := by omega
  have hne : ¬ rb = w.heap.size := Nat.ne_of_lt h.blk.lt
  by_cases hn : l = []
  · subst hn
    rw [if_pos rfl, if_pos rfl]
    obtain ⟨d0, d1, f0, f1⟩ := (h.later hal).blk.two
    simp only [List.length_nil] at d0 d1 f0 f1
    clear h hs hl hal
    go_enter Tryz.func48, Tryz.ntmps48
    go_wp2
    go_ret
    refine ⟨rfl, HR.out.fin, grown_step (World.grownBy_alloc w (.cells #[.int .i64 (t : Int), .int .i64 (a : Int), .slice sa ([] : List UInt8).length c] 98) _) ⟨rfl, rfl, rfl, by rw [World.size_setCell]; exact Nat.le_refl _, fun k hk hne => ?_⟩⟩
    exact Below.heap_setCell _ _ _ _ (fun e => hne (by rw [e]))
  · rw [if_neg hn, if_neg hn]
    have hpos : (0 : Int) < (l.length : Int) := by have := List.length_pos_iff.2 hn; omega
    clear h hs hl hal hn
    go_enter Tryz.func48, Tryz.ntmps48
    go_wp2
    go_ret
    exact ⟨rfl, HR.out, World.grownBy_alloc w _ _⟩
end Go.Proofs.YtcfjcoockklkeaaGreatDoor
