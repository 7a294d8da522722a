/-
  THE STATEMENT InstrWith: the walk of the law. Conditions: none.
-/
import Derived.Test.YtkkjoghfdmmpaaaDoorWith2
namespace Go.Proofs.YtkkjoghfdmmpaaaDoor
open Go.RowKit

theorem fill_self : ∀ os : List Opd, fill os (numsOf os) = os
  | [] => rfl
  | o :: os => by
    rw [numsOf_cons]
    cases h : hasNum o
    · simp only [fill, h]; simp [fill_self os]
    · simp only [fill, h]; simp [fill_self os]
theorem withOk_self (x : Ins) : withOk x (numsOf x.args) = (check07 x == 0) := by simp [withOk, fill_self]
theorem withI_self {x : Ins} (h : (check07 x == 0) = true) : withI x (numsOf x.args) = x := by
  rw [withI_yes (by rw [withOk_self, h]), fill_self]

theorem bcell {W w1 : World} (hb : Below W.heap.size W w1) : (∀ b o, b < W.heap.size → w1.cell? ⟨b, o, none⟩ = W.cell? ⟨b, o, none⟩) ∧ (∀ b o, b < W.heap.size → w1.frozen? ⟨b, o, none⟩ = W.frozen? ⟨b, o, none⟩) :=
  ⟨fun b o h => hb.cell (p := ⟨b, o, none⟩) h, fun b o h => hb.frozen (p := ⟨b, o, none⟩) h⟩
/-- What stands while InstrWith works. -/
structure IwH (w0 : World) (p q : Blocks) (x : Ins) (l : List Int) (b2 b5 b7 : Nat) (va vl v5 v7 : Value) (w : World) : Prop where
  below : Below w0.heap.size w0 w
  spc0 : Spc w0
  sx0 : SlR opdR w0 p va x.args
  sl0 : SlR intR w0 q vl l
  k2 : Blk w b2 39 #[.string x.op, va]
  k5 : Blk w b5 39 #[.string (withI x l).op, v5]
  k7 : Blk w b7 39 #[.string (withI x l).op, v7]
  s5 : SlR opdR w (fun _ => True) v5 (withI x l).args
  s7 : SlR opdR w (fun _ => True) v7 (withI x l).args
theorem IwH.next {w0 : World} {p q : Blocks} {x : Ins} {l : List Int} {b2 b5 b7 : Nat} {va vl v5 v7 : Value} {w w' : World} (h : IwH w0 p q x l b2 b5 b7 va vl v5 v7 w) (hb : Below w.heap.size w w') : IwH w0 p q x l b2 b5 b7 va vl v5 v7 w' :=
  ⟨h.below.trans (hb.mono h.below.size), h.spc0, h.sx0, h.sl0, h.k2.below hb h.k2.lt, h.k5.below hb h.k5.lt, h.k7.below hb h.k7.lt, h.s5.below hb, h.s7.below hb⟩
theorem IwH.sx {w0 : World} {p q : Blocks} {x : Ins} {l : List Int} {b2 b5 b7 : Nat} {va vl v5 v7 : Value} {w : World} (h : IwH w0 p q x l b2 b5 b7 va vl v5 v7 w) : SlR opdR w p va x.args := h.sx0.below h.below
theorem IwH.spc {w0 : World} {p q : Blocks} {x : Ins} {l : List Int} {b2 b5 b7 : Nat} {va vl v5 v7 : Value} {w : World} (h : IwH w0 p q x l b2 b5 b7 va vl v5 v7 w) : Spc w := h.spc0.below h.below

set_option maxHeartbeats 4000000 in
theorem InstrWith_any (p q : Blocks) (x : Ins) (l : List Int) (v vl : Value) (w : World) (h : SlR opdR w p v x.args) (hl : SlR intR w q vl l) (hT : Spc w) (hz : x.op.size ≤ maxLen) :
    Calls Tryd.prog 13 #[.agg #[.string x.op, v], vl] w fun e w' => e = .returned (.bool true) ∧ Below w.heap.size w w' := by
  obtain ⟨a, c, rfl, _⟩ := h.opd
  obtain ⟨la, lc, rfl, hlc, hlm, _⟩ := hl.int
  have H0 := Lib.hid (InsH.start h hT)
  have HX := Lib.hid h
  have HLS := Lib.hid hl
  have HT := Lib.hid hT
  have HZ := Lib.hid hz
  clear h hl hT hz
  obtain ⟨a0, a1, _, _⟩ := H0.out.blk.two
  generalize hW : w.alloc (.cells #[.string x.op, .slice a x.args.length c] 39) = W at *
  have HW := Lib.hid hW
  clear hW
  have hsh := short7_any p x _ _ H0.out.sx
  cases hs : short8 x
  · rw [hs] at hsh
    have HSH := Lib.hid hsh
    clear hsh hs
    go_enter Tryd.func13, Tryd.ntmps13
    go_wp2_with fail
    rw [HW.out]
    refine HSH.out.mono ?_
    rintro e w1 ⟨rfl, hb⟩
    have H1 := Lib.hid (H0.out.next hb)
    clear hb
    go_wp2_with fail
    refine (alive7_any _ H1.out.spc).mono ?_
    rintro e w2 ⟨rfl, hb⟩
    have H2 := Lib.hid (H1.out.next hb)
    clear hb
    go_wp2
    go_ret
    exact ⟨rfl, H2.out.below⟩
  · have hn : x.args.length ≤ 20 := by
      have := hs
      simp [short8] at this
      exact this.2
    have HL := Lib.hid (show x.args.length ≤ 1000 by omega)
    rw [hs] at hsh
    have HSH := Lib.hid hsh
    clear hsh hs hn
    cases h20 : decide ((20 : Int) < l.length)
    rotate_left
    · go_enter Tryd.func13, Tryd.ntmps13
      go_wp2_with fail
      rw [HW.out]
      refine HSH.out.mono ?_
      rintro e w1 ⟨rfl, hb⟩
      have H1 := Lib.hid (H0.out.next hb)
      clear hb
      go_wp2_with fail
      refine (alive7_any _ H1.out.spc).mono ?_
      rintro e w2 ⟨rfl, hb⟩
      have H2 := Lib.hid (H1.out.next hb)
      clear hb
      go_wp2
      go_ret
      exact ⟨rfl, H2.out.below⟩
    · go_enter Tryd.func13, Tryd.ntmps13
      go_wp2_with fail
      rw [HW.out]
      refine HSH.out.mono ?_
      rintro e w1 ⟨rfl, hb⟩
      have H1 := Lib.hid (H0.out.next hb)
      obtain ⟨c0, c1, _, _⟩ := H1.out.blk.two
      clear hb a0 a1
      go_wp2_with fail
      refine (With_any p q x l _ _ _ H1.out.sx (HLS.out.below H1.out.below) H1.out.spc HL.out HZ.out).mono ?_
      rintro e w2 ⟨⟨v5, rfl, ho5⟩, hb⟩
      have H2 := Lib.hid (H1.out.next hb)
      have HS5 := Lib.hid ho5.slR
      obtain ⟨a5, c5, rfl, _⟩ := ho5
      clear hb
      obtain ⟨W3, hW3⟩ : ∃ W : World, W = w2.alloc (.cells #[.string (withI x l).op, .slice a5 (withI x l).args.length c5] 39) := ⟨_, rfl⟩
      have hb3 : Below w2.heap.size w2 W3 := hW3 ▸ below_alloc w2 _
      have K5 : Hid (Blk W3 w2.heap.size 39 #[.string (withI x l).op, .slice a5 (withI x l).args.length c5]) := hW3 ▸ Blk.new w2 _ _
      have H3 := Lib.hid (H2.out.next hb3)
      have HS5b := Lib.hid (HS5.out.below hb3)
      obtain ⟨c0, c1, _, _⟩ := H2.out.blk.two
      have hs2 : w.heap.size < w2.heap.size := H2.out.blk.lt
      obtain ⟨d0, d1, _, _⟩ := H3.out.blk.two
      clear hb3
      go_wp2_with fail
      rw [← hW3]
      clear hW3
      refine (With07_any p q x l _ _ W3 H3.out.sx (HLS.out.below H3.out.below) HL.out).mono ?_
      rintro e w4 ⟨⟨v7, rfl, ho7⟩, hb⟩
      have hb5 : Below w4.heap.size w4 (w4.alloc (.cells #[.string (withI x l).op, v7] 39)) := below_alloc w4 _
      have H5 : Hid (IwH w p q x l w.heap.size w2.heap.size w4.heap.size (.slice a x.args.length c) (.slice la l.length lc) (.slice a5 (withI x l).args.length c5) v7 (w4.alloc (.cells #[.string (withI x l).op, v7] 39))) :=
        ⟨(H3.out.next hb).below.trans (hb5.mono (H3.out.next hb).below.size), HT.out, HX.out, HLS.out, (H3.out.next hb).blk.alloc _, (K5.out.below hb K5.out.lt).alloc _, Blk.new w4 _ _, ((HS5b.out.below hb).mono fun _ _ => trivial).alloc _, ho7.alloc _⟩
      obtain ⟨a7, c7, rfl, _⟩ := ho7.opd
      obtain ⟨c0, c1, _, _⟩ := (H3.out.next hb).blk.two
      have hs4 : w.heap.size < w4.heap.size := (H3.out.next hb).blk.lt
      have H5d := Lib.hid (H5.out.next (below_drew _))
      obtain ⟨d0, d1, _, _⟩ := H5.out.k2.two
      clear hb hb5 ho7
      go_upto_region 5 with fail
      obtain ⟨W5, hW5⟩ : ∃ W : World, W = w4.alloc (.cells #[.string (withI x l).op, .slice a7 (withI x l).args.length c7] 39) := ⟨_, rfl⟩
      rw [← hW5] at H5 H5d d0 d1 ⊢
      clear hW5 c0 c1
      have hs5 : w.heap.size < W5.heap.size := H5.out.k2.lt
      have hn5 : w.heap.size ≠ W5.heap.size := by omega
      have hn5' : W5.heap.size ≠ w.heap.size := by omega
      cases hc : (check07 x == 0)
      · have HWC : Hid (∀ (vn : Value) (wz : World), SlR opdR wz p (.slice a x.args.length c) x.args → SlR intR wz (fun _ => True) vn (numsOf x.args) → Spc wz → Calls Tryd.prog 61 #[.agg #[.string x.op, .slice a x.args.length c], vn] wz fun e w' => (∃ v', e = .returned (.tuple #[.agg #[.string insZ.op, v'], .bool false]) ∧ OpdOwn w' (fun b => wz.heap.size ≤ b) v' insZ.args) ∧ Below wz.heap.size wz w') := fun vn wz h1 h2 h3 => by
          have h4 := With_any p (fun _ => True) x (numsOf x.args) (.slice a x.args.length c) vn wz h1 h2 h3 HL.out HZ.out
          rw [withOk_self, hc, withI_no (by rw [withOk_self, hc])] at h4
          exact h4
        go_region_held3 (fun w' => w'.cell? ⟨w.heap.size, 0, none⟩ = some (.string x.op) ∧ w'.cell? ⟨w.heap.size, 1, none⟩ = some (.slice a x.args.length c)) (go_keep)
          (first | (go_at_call 51; refine (nums_any p x _ _ (by first | exact H5d.out.sx | exact (H5d.out.next (below_alloc _ _)).sx) (by have := HL.out; omega)).mono ?_; rintro e w6 ⟨vn, rfl, hon, hb⟩; have HR6 := Lib.hid hb; have HB6 : Hid (Below W5.drew.heap.size W5.drew w6) := (by first | exact hb | exact (below_alloc _ _).trans (hb.mono (below_alloc _ _).size)); have H6 := Lib.hid (H5d.out.next HB6.out); obtain ⟨f0, f1, _, _⟩ := H6.out.k2.two; obtain ⟨hc6, hf6⟩ := bcell hb; have hz6 : W5.heap.size ≤ w6.heap.size := HB6.out.size; have hn6 : w.heap.size ≠ w6.heap.size := (by omega); have hn6' : w6.heap.size ≠ w.heap.size := (by omega); have hy6 := hb.size; (try simp at hy6); (try have hq6 : W5.heap.size < w6.heap.size := by omega); have HON := Lib.hid (hon.slR (q := fun _ => True) (fun _ _ => trivial) (fun _ _ => trivial)); clear hb hon)
                 | (go_at_call 61; refine (HWC.out _ _ (by first | exact H6.out.sx | exact (H6.out.next (below_alloc _ _)).sx) (by first | exact HON.out | exact HON.out.below (below_alloc _ _)) (by first | exact H6.out.spc | exact (H6.out.next (below_alloc _ _)).spc)).mono ?_; rintro e w7 ⟨⟨v9, rfl, ho9⟩, hb⟩; have HR7 := Lib.hid hb; have HB7 : Hid (Below w6.heap.size w6 w7) := (by first | exact hb | exact (below_alloc _ _).trans (hb.mono (below_alloc _ _).size)); have H7 := Lib.hid (H6.out.next HB7.out); have HO9 := Lib.hid ho9; obtain ⟨a9, c9, rfl, _⟩ := ho9; obtain ⟨f0, f1, _, _⟩ := H7.out.k2.two; obtain ⟨hc7, hf7⟩ := bcell hb; have hz7 : w6.heap.size ≤ w7.heap.size := HB7.out.size; have hy7 := hb.size; (try simp at hy7); (try have hq7 : w6.heap.size < w7.heap.size := by omega); clear hb))
        · have hb67 : Below W5.drew.heap.size W5.drew w7 := HB6.out.trans (HB7.out.mono HB6.out.size)
          have hbE : Below W5.drew.heap.size W5.drew (w7.alloc (.cells #[.string insZ.op, .slice a9 insZ.args.length c9] 39)) := hb67.alloc (Nat.le_trans hz6 hz7) _
          have K9 : Hid (Blk (w7.alloc (.cells #[.string insZ.op, .slice a9 insZ.args.length c9] 39)) w7.heap.size 39 #[.string insZ.op, .slice a9 insZ.args.length c9]) := Blk.new w7 _ _
          have S9 : Hid (SlR opdR (w7.alloc (.cells #[.string insZ.op, .slice a9 insZ.args.length c9] 39)) (fun _ => True) (.slice a9 insZ.args.length c9) insZ.args) := (HO9.out.slR.mono fun _ _ => trivial).alloc _
          have H8 := Lib.hid (H5d.out.next hbE)
          clear hbE hb67 hc6 hf6 hc7 hf7 H6 H7 HO9
          generalize (w7.alloc (.cells #[.string insZ.op, .slice a9 insZ.args.length c9] 39)) = WE at *
          generalize w7.heap.size = b9 at *
          obtain ⟨g0, g1, _, _⟩ := H8.out.k2.two
          go_wp2_with fail
          refine (check07_any p x _ _ H8.out.sx).mono ?_
          rintro e w8 ⟨rfl, hb⟩
          have H9 := Lib.hid (H8.out.next hb)
          have K9b := Lib.hid (K9.out.below hb K9.out.lt)
          have S9b := Lib.hid (S9.out.below hb)
          clear hb g0 g1
          go_wp2_with fail
          refine (alive7_any _ H9.out.spc).mono ?_
          rintro e w9 ⟨rfl, hb⟩
          have H10 := Lib.hid (H9.out.next hb)
          have K10 := Lib.hid (K9b.out.below hb K9b.out.lt)
          have S10 := Lib.hid (S9b.out.below hb)
          obtain ⟨g0, g1, _, _⟩ := H10.out.k5.two
          obtain ⟨g2, g3, _, _⟩ := H10.out.k7.two
          clear hb
          go_wp2_with fail
          refine (ref07Same_any _ _ (withI x l) (withI x l) _ _ _ H10.out.s5 H10.out.s7).mono ?_
          rw [insEq_refl]
          rintro e w10 ⟨rfl, hb⟩
          have H11 := Lib.hid (H10.out.next hb)
          clear hb g0 g1 g2 g3
          go_wp2
          go_ret
          exact ⟨rfl, H11.out.below⟩
        · have hb67 : Below W5.drew.heap.size W5.drew w7 := HB6.out.trans (HB7.out.mono HB6.out.size)
          have hbE : Below W5.drew.heap.size W5.drew ((w7.setCell ⟨w6.heap.size, 0, none⟩ (.string insZ.op)).setCell ⟨w6.heap.size, 1, none⟩ (.slice a9 insZ.args.length c9)) := (hb67.setCell (p := ⟨w6.heap.size, 0, none⟩) hz6 _).setCell (p := ⟨w6.heap.size, 1, none⟩) hz6 _
          have K9 : Hid (Blk ((w7.setCell ⟨w6.heap.size, 0, none⟩ (.string insZ.op)).setCell ⟨w6.heap.size, 1, none⟩ (.slice a9 insZ.args.length c9)) w6.heap.size 39 #[.string insZ.op, .slice a9 insZ.args.length c9]) := (((Blk.new w6 39 #[.string ⟨#[]⟩, .slice none 0 0]).below HR7.out (by simp)).set 0 _).set 1 _
          have S9 : Hid (SlR opdR ((w7.setCell ⟨w6.heap.size, 0, none⟩ (.string insZ.op)).setCell ⟨w6.heap.size, 1, none⟩ (.slice a9 insZ.args.length c9)) (fun _ => True) (.slice a9 insZ.args.length c9) insZ.args) := ((HO9.out.slR.keep (Keep.setCell (fun k hk => by (try simp at hk); show k ≠ w6.heap.size; omega) _)).keep (Keep.setCell (fun k hk => by (try simp at hk); show k ≠ w6.heap.size; omega) _)).mono fun _ _ => trivial
          have H8 := Lib.hid (H5d.out.next hbE)
          clear hbE hb67 hc6 hf6 hc7 hf7 H6 H7 HO9
          generalize ((w7.setCell ⟨w6.heap.size, 0, none⟩ (.string insZ.op)).setCell ⟨w6.heap.size, 1, none⟩ (.slice a9 insZ.args.length c9)) = WE at *
          generalize w6.heap.size = b9 at *
          obtain ⟨g0, g1, _, _⟩ := H8.out.k2.two
          go_wp2_with fail
          refine (check07_any p x _ _ H8.out.sx).mono ?_
          rintro e w8 ⟨rfl, hb⟩
          have H9 := Lib.hid (H8.out.next hb)
          have K9b := Lib.hid (K9.out.below hb K9.out.lt)
          have S9b := Lib.hid (S9.out.below hb)
          clear hb g0 g1
          go_wp2_with fail
          refine (alive7_any _ H9.out.spc).mono ?_
          rintro e w9 ⟨rfl, hb⟩
          have H10 := Lib.hid (H9.out.next hb)
          have K10 := Lib.hid (K9b.out.below hb K9b.out.lt)
          have S10 := Lib.hid (S9b.out.below hb)
          obtain ⟨g0, g1, _, _⟩ := H10.out.k5.two
          obtain ⟨g2, g3, _, _⟩ := H10.out.k7.two
          clear hb
          go_wp2_with fail
          refine (ref07Same_any _ _ (withI x l) (withI x l) _ _ _ H10.out.s5 H10.out.s7).mono ?_
          rw [insEq_refl]
          rintro e w10 ⟨rfl, hb⟩
          have H11 := Lib.hid (H10.out.next hb)
          clear hb g0 g1 g2 g3
          go_wp2
          go_ret
          exact ⟨rfl, H11.out.below⟩
        · have hb67 : Below W5.drew.heap.size W5.drew w7 := HB6.out.trans (HB7.out.mono HB6.out.size)
          have hbE : Below W5.drew.heap.size W5.drew ((w7.setCell ⟨W5.heap.size, 0, none⟩ (.string insZ.op)).setCell ⟨W5.heap.size, 1, none⟩ (.slice a9 insZ.args.length c9)) := (hb67.setCell (p := ⟨W5.heap.size, 0, none⟩) (Nat.le_refl _) _).setCell (p := ⟨W5.heap.size, 1, none⟩) (Nat.le_refl _) _
          have K9 : Hid (Blk ((w7.setCell ⟨W5.heap.size, 0, none⟩ (.string insZ.op)).setCell ⟨W5.heap.size, 1, none⟩ (.slice a9 insZ.args.length c9)) W5.heap.size 39 #[.string insZ.op, .slice a9 insZ.args.length c9]) := (((Blk.below (show Blk (W5.alloc (.cells #[.string ⟨#[]⟩, .slice none 0 0] 39)).drew W5.heap.size 39 #[.string ⟨#[]⟩, .slice none 0 0] from Blk.new W5 39 #[.string ⟨#[]⟩, .slice none 0 0]) HR6.out (by simp)).below HR7.out hq6).set 0 _).set 1 _
          have S9 : Hid (SlR opdR ((w7.setCell ⟨W5.heap.size, 0, none⟩ (.string insZ.op)).setCell ⟨W5.heap.size, 1, none⟩ (.slice a9 insZ.args.length c9)) (fun _ => True) (.slice a9 insZ.args.length c9) insZ.args) := ((HO9.out.slR.keep (Keep.setCell (fun k hk => by (try simp at hk); show k ≠ W5.heap.size; omega) _)).keep (Keep.setCell (fun k hk => by (try simp at hk); show k ≠ W5.heap.size; omega) _)).mono fun _ _ => trivial
          have H8 := Lib.hid (H5d.out.next hbE)
          clear hbE hb67 hc6 hf6 hc7 hf7 H6 H7 HO9
          generalize ((w7.setCell ⟨W5.heap.size, 0, none⟩ (.string insZ.op)).setCell ⟨W5.heap.size, 1, none⟩ (.slice a9 insZ.args.length c9)) = WE at *
          generalize W5.heap.size = b9 at *
          obtain ⟨g0, g1, _, _⟩ := H8.out.k2.two
          go_wp2_with fail
          refine (check07_any p x _ _ H8.out.sx).mono ?_
          rintro e w8 ⟨rfl, hb⟩
          have H9 := Lib.hid (H8.out.next hb)
          have K9b := Lib.hid (K9.out.below hb K9.out.lt)
          have S9b := Lib.hid (S9.out.below hb)
          clear hb g0 g1
          go_wp2_with fail
          refine (alive7_any _ H9.out.spc).mono ?_
          rintro e w9 ⟨rfl, hb⟩
          have H10 := Lib.hid (H9.out.next hb)
          have K10 := Lib.hid (K9b.out.below hb K9b.out.lt)
          have S10 := Lib.hid (S9b.out.below hb)
          obtain ⟨g0, g1, _, _⟩ := H10.out.k5.two
          obtain ⟨g2, g3, _, _⟩ := H10.out.k7.two
          clear hb
          go_wp2_with fail
          refine (ref07Same_any _ _ (withI x l) (withI x l) _ _ _ H10.out.s5 H10.out.s7).mono ?_
          rw [insEq_refl]
          rintro e w10 ⟨rfl, hb⟩
          have H11 := Lib.hid (H10.out.next hb)
          clear hb g0 g1 g2 g3
          go_wp2
          go_ret
          exact ⟨rfl, H11.out.below⟩
      · have HWC : Hid (∀ (vn : Value) (wz : World), SlR opdR wz p (.slice a x.args.length c) x.args → SlR intR wz (fun _ => True) vn (numsOf x.args) → Spc wz → Calls Tryd.prog 61 #[.agg #[.string x.op, .slice a x.args.length c], vn] wz fun e w' => (∃ v', e = .returned (.tuple #[.agg #[.string x.op, v'], .bool true]) ∧ OpdOwn w' (fun b => wz.heap.size ≤ b) v' x.args) ∧ Below wz.heap.size wz w') := fun vn wz h1 h2 h3 => by
          have h4 := With_any p (fun _ => True) x (numsOf x.args) (.slice a x.args.length c) vn wz h1 h2 h3 HL.out HZ.out
          rw [withOk_self, hc, withI_self hc] at h4
          exact h4
        go_region_held3 (fun w' => w'.cell? ⟨w.heap.size, 0, none⟩ = some (.string x.op) ∧ w'.cell? ⟨w.heap.size, 1, none⟩ = some (.slice a x.args.length c)) (go_keep)
          (first | (go_at_call 51; refine (nums_any p x _ _ (by first | exact H5d.out.sx | exact (H5d.out.next (below_alloc _ _)).sx) (by have := HL.out; omega)).mono ?_; rintro e w6 ⟨vn, rfl, hon, hb⟩; have HR6 := Lib.hid hb; have HB6 : Hid (Below W5.drew.heap.size W5.drew w6) := (by first | exact hb | exact (below_alloc _ _).trans (hb.mono (below_alloc _ _).size)); have H6 := Lib.hid (H5d.out.next HB6.out); obtain ⟨f0, f1, _, _⟩ := H6.out.k2.two; obtain ⟨hc6, hf6⟩ := bcell hb; have hz6 : W5.heap.size ≤ w6.heap.size := HB6.out.size; have hn6 : w.heap.size ≠ w6.heap.size := (by omega); have hn6' : w6.heap.size ≠ w.heap.size := (by omega); have hy6 := hb.size; (try simp at hy6); (try have hq6 : W5.heap.size < w6.heap.size := by omega); have HON := Lib.hid (hon.slR (q := fun _ => True) (fun _ _ => trivial) (fun _ _ => trivial)); clear hb hon)
                 | (go_at_call 61; refine (HWC.out _ _ (by first | exact H6.out.sx | exact (H6.out.next (below_alloc _ _)).sx) (by first | exact HON.out | exact HON.out.below (below_alloc _ _)) (by first | exact H6.out.spc | exact (H6.out.next (below_alloc _ _)).spc)).mono ?_; rintro e w7 ⟨⟨v9, rfl, ho9⟩, hb⟩; have HR7 := Lib.hid hb; have HB7 : Hid (Below w6.heap.size w6 w7) := (by first | exact hb | exact (below_alloc _ _).trans (hb.mono (below_alloc _ _).size)); have H7 := Lib.hid (H6.out.next HB7.out); have HO9 := Lib.hid ho9; obtain ⟨a9, c9, rfl, _⟩ := ho9; obtain ⟨f0, f1, _, _⟩ := H7.out.k2.two; obtain ⟨hc7, hf7⟩ := bcell hb; have hz7 : w6.heap.size ≤ w7.heap.size := HB7.out.size; have hy7 := hb.size; (try simp at hy7); (try have hq7 : w6.heap.size < w7.heap.size := by omega); clear hb))
        · have hb67 : Below W5.drew.heap.size W5.drew w7 := HB6.out.trans (HB7.out.mono HB6.out.size)
          have hbE : Below W5.drew.heap.size W5.drew (w7.alloc (.cells #[.string x.op, .slice a9 x.args.length c9] 39)) := hb67.alloc (Nat.le_trans hz6 hz7) _
          have K9 : Hid (Blk (w7.alloc (.cells #[.string x.op, .slice a9 x.args.length c9] 39)) w7.heap.size 39 #[.string x.op, .slice a9 x.args.length c9]) := Blk.new w7 _ _
          have S9 : Hid (SlR opdR (w7.alloc (.cells #[.string x.op, .slice a9 x.args.length c9] 39)) (fun _ => True) (.slice a9 x.args.length c9) x.args) := (HO9.out.slR.mono fun _ _ => trivial).alloc _
          have H8 := Lib.hid (H5d.out.next hbE)
          clear hbE hb67 hc6 hf6 hc7 hf7 H6 H7 HO9
          generalize (w7.alloc (.cells #[.string x.op, .slice a9 x.args.length c9] 39)) = WE at *
          generalize w7.heap.size = b9 at *
          obtain ⟨g0, g1, _, _⟩ := H8.out.k2.two
          go_wp2_with fail
          refine (check07_any p x _ _ H8.out.sx).mono ?_
          rintro e w8 ⟨rfl, hb⟩
          have H9 := Lib.hid (H8.out.next hb)
          have K9b := Lib.hid (K9.out.below hb K9.out.lt)
          have S9b := Lib.hid (S9.out.below hb)
          clear hb g0 g1
          go_wp2_with fail
          refine (alive7_any _ H9.out.spc).mono ?_
          rintro e w9 ⟨rfl, hb⟩
          have H10 := Lib.hid (H9.out.next hb)
          have K10 := Lib.hid (K9b.out.below hb K9b.out.lt)
          have S10 := Lib.hid (S9b.out.below hb)
          obtain ⟨g0, g1, _, _⟩ := H10.out.k5.two
          obtain ⟨g2, g3, _, _⟩ := H10.out.k7.two
          clear hb
          go_wp2_with fail
          refine (ref07Same_any _ _ (withI x l) (withI x l) _ _ _ H10.out.s5 H10.out.s7).mono ?_
          rw [insEq_refl]
          rintro e w10 ⟨rfl, hb⟩
          have H11 := Lib.hid (H10.out.next hb)
          have K11 := Lib.hid (K10.out.below hb K10.out.lt)
          have S11 := Lib.hid (S10.out.below hb)
          obtain ⟨g4, g5, _, _⟩ := K11.out.two
          obtain ⟨g6, g7, _, _⟩ := H11.out.k2.two
          clear hb g0 g1 g2 g3
          go_wp2_with fail
          refine (ref07Same_any _ _ x x _ _ _ S11.out H11.out.sx).mono ?_
          rw [insEq_refl]
          rintro e w11 ⟨rfl, hb⟩
          have H12 := Lib.hid (H11.out.next hb)
          clear hb
          go_wp2
          go_ret
          exact ⟨rfl, H12.out.below⟩
        · have hb67 : Below W5.drew.heap.size W5.drew w7 := HB6.out.trans (HB7.out.mono HB6.out.size)
          have hbE : Below W5.drew.heap.size W5.drew ((w7.setCell ⟨w6.heap.size, 0, none⟩ (.string x.op)).setCell ⟨w6.heap.size, 1, none⟩ (.slice a9 x.args.length c9)) := (hb67.setCell (p := ⟨w6.heap.size, 0, none⟩) hz6 _).setCell (p := ⟨w6.heap.size, 1, none⟩) hz6 _
          have K9 : Hid (Blk ((w7.setCell ⟨w6.heap.size, 0, none⟩ (.string x.op)).setCell ⟨w6.heap.size, 1, none⟩ (.slice a9 x.args.length c9)) w6.heap.size 39 #[.string x.op, .slice a9 x.args.length c9]) := (((Blk.new w6 39 #[.string ⟨#[]⟩, .slice none 0 0]).below HR7.out (by simp)).set 0 _).set 1 _
          have S9 : Hid (SlR opdR ((w7.setCell ⟨w6.heap.size, 0, none⟩ (.string x.op)).setCell ⟨w6.heap.size, 1, none⟩ (.slice a9 x.args.length c9)) (fun _ => True) (.slice a9 x.args.length c9) x.args) := ((HO9.out.slR.keep (Keep.setCell (fun k hk => by (try simp at hk); show k ≠ w6.heap.size; omega) _)).keep (Keep.setCell (fun k hk => by (try simp at hk); show k ≠ w6.heap.size; omega) _)).mono fun _ _ => trivial
          have H8 := Lib.hid (H5d.out.next hbE)
          clear hbE hb67 hc6 hf6 hc7 hf7 H6 H7 HO9
          generalize ((w7.setCell ⟨w6.heap.size, 0, none⟩ (.string x.op)).setCell ⟨w6.heap.size, 1, none⟩ (.slice a9 x.args.length c9)) = WE at *
          generalize w6.heap.size = b9 at *
          obtain ⟨g0, g1, _, _⟩ := H8.out.k2.two
          go_wp2_with fail
          refine (check07_any p x _ _ H8.out.sx).mono ?_
          rintro e w8 ⟨rfl, hb⟩
          have H9 := Lib.hid (H8.out.next hb)
          have K9b := Lib.hid (K9.out.below hb K9.out.lt)
          have S9b := Lib.hid (S9.out.below hb)
          clear hb g0 g1
          go_wp2_with fail
          refine (alive7_any _ H9.out.spc).mono ?_
          rintro e w9 ⟨rfl, hb⟩
          have H10 := Lib.hid (H9.out.next hb)
          have K10 := Lib.hid (K9b.out.below hb K9b.out.lt)
          have S10 := Lib.hid (S9b.out.below hb)
          obtain ⟨g0, g1, _, _⟩ := H10.out.k5.two
          obtain ⟨g2, g3, _, _⟩ := H10.out.k7.two
          clear hb
          go_wp2_with fail
          refine (ref07Same_any _ _ (withI x l) (withI x l) _ _ _ H10.out.s5 H10.out.s7).mono ?_
          rw [insEq_refl]
          rintro e w10 ⟨rfl, hb⟩
          have H11 := Lib.hid (H10.out.next hb)
          have K11 := Lib.hid (K10.out.below hb K10.out.lt)
          have S11 := Lib.hid (S10.out.below hb)
          obtain ⟨g4, g5, _, _⟩ := K11.out.two
          obtain ⟨g6, g7, _, _⟩ := H11.out.k2.two
          clear hb g0 g1 g2 g3
          go_wp2_with fail
          refine (ref07Same_any _ _ x x _ _ _ S11.out H11.out.sx).mono ?_
          rw [insEq_refl]
          rintro e w11 ⟨rfl, hb⟩
          have H12 := Lib.hid (H11.out.next hb)
          clear hb
          go_wp2
          go_ret
          exact ⟨rfl, H12.out.below⟩
        · have hb67 : Below W5.drew.heap.size W5.drew w7 := HB6.out.trans (HB7.out.mono HB6.out.size)
          have hbE : Below W5.drew.heap.size W5.drew ((w7.setCell ⟨W5.heap.size, 0, none⟩ (.string x.op)).setCell ⟨W5.heap.size, 1, none⟩ (.slice a9 x.args.length c9)) := (hb67.setCell (p := ⟨W5.heap.size, 0, none⟩) (Nat.le_refl _) _).setCell (p := ⟨W5.heap.size, 1, none⟩) (Nat.le_refl _) _
          have K9 : Hid (Blk ((w7.setCell ⟨W5.heap.size, 0, none⟩ (.string x.op)).setCell ⟨W5.heap.size, 1, none⟩ (.slice a9 x.args.length c9)) W5.heap.size 39 #[.string x.op, .slice a9 x.args.length c9]) := (((Blk.below (show Blk (W5.alloc (.cells #[.string ⟨#[]⟩, .slice none 0 0] 39)).drew W5.heap.size 39 #[.string ⟨#[]⟩, .slice none 0 0] from Blk.new W5 39 #[.string ⟨#[]⟩, .slice none 0 0]) HR6.out (by simp)).below HR7.out hq6).set 0 _).set 1 _
          have S9 : Hid (SlR opdR ((w7.setCell ⟨W5.heap.size, 0, none⟩ (.string x.op)).setCell ⟨W5.heap.size, 1, none⟩ (.slice a9 x.args.length c9)) (fun _ => True) (.slice a9 x.args.length c9) x.args) := ((HO9.out.slR.keep (Keep.setCell (fun k hk => by (try simp at hk); show k ≠ W5.heap.size; omega) _)).keep (Keep.setCell (fun k hk => by (try simp at hk); show k ≠ W5.heap.size; omega) _)).mono fun _ _ => trivial
          have H8 := Lib.hid (H5d.out.next hbE)
          clear hbE hb67 hc6 hf6 hc7 hf7 H6 H7 HO9
          generalize ((w7.setCell ⟨W5.heap.size, 0, none⟩ (.string x.op)).setCell ⟨W5.heap.size, 1, none⟩ (.slice a9 x.args.length c9)) = WE at *
          generalize W5.heap.size = b9 at *
          obtain ⟨g0, g1, _, _⟩ := H8.out.k2.two
          go_wp2_with fail
          refine (check07_any p x _ _ H8.out.sx).mono ?_
          rintro e w8 ⟨rfl, hb⟩
          have H9 := Lib.hid (H8.out.next hb)
          have K9b := Lib.hid (K9.out.below hb K9.out.lt)
          have S9b := Lib.hid (S9.out.below hb)
          clear hb g0 g1
          go_wp2_with fail
          refine (alive7_any _ H9.out.spc).mono ?_
          rintro e w9 ⟨rfl, hb⟩
          have H10 := Lib.hid (H9.out.next hb)
          have K10 := Lib.hid (K9b.out.below hb K9b.out.lt)
          have S10 := Lib.hid (S9b.out.below hb)
          obtain ⟨g0, g1, _, _⟩ := H10.out.k5.two
          obtain ⟨g2, g3, _, _⟩ := H10.out.k7.two
          clear hb
          go_wp2_with fail
          refine (ref07Same_any _ _ (withI x l) (withI x l) _ _ _ H10.out.s5 H10.out.s7).mono ?_
          rw [insEq_refl]
          rintro e w10 ⟨rfl, hb⟩
          have H11 := Lib.hid (H10.out.next hb)
          have K11 := Lib.hid (K10.out.below hb K10.out.lt)
          have S11 := Lib.hid (S10.out.below hb)
          obtain ⟨g4, g5, _, _⟩ := K11.out.two
          obtain ⟨g6, g7, _, _⟩ := H11.out.k2.two
          clear hb g0 g1 g2 g3
          go_wp2_with fail
          refine (ref07Same_any _ _ x x _ _ _ S11.out H11.out.sx).mono ?_
          rw [insEq_refl]
          rintro e w11 ⟨rfl, hb⟩
          have H12 := Lib.hid (H11.out.next hb)
          clear hb
          go_wp2
          go_ret
          exact ⟨rfl, H12.out.below⟩
end Go.Proofs.YtkkjoghfdmmpaaaDoor
