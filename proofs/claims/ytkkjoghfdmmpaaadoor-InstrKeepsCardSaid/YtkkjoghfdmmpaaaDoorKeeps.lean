/-
  THE STATEMENT InstrKeeps: the walk of the law. Conditions: none.
-/
import Derived.Test.YtkkjoghfdmmpaaaDoorWith3
import Derived.Test.YtkkjoghfdmmpaaaDoorMakes1
import Derived.Lib.QuietBelow
namespace Go.Proofs.YtkkjoghfdmmpaaaDoor
open Go.RowKit Go.Sort

theorem mark_num {o : Opd} {n : Int} (h : hasNum o = true) : mark07 { o with n := n } = mark07 o := by
  obtain ⟨k, r, m⟩ := o
  simp only [hasNum, Bool.or_eq_true, beq_iff_eq] at h
  rcases h with ((h | h) | h) | h <;> subst h <;> simp [mark07]
theorem mark_fill : ∀ (os : List Opd) (l : List Int) (j : Nat), mark07 ((fill os l).getD j default) = mark07 (os.getD j default)
  | [], _, j => rfl
  | o :: os, l, j => by
    cases h : hasNum o
    · simp only [fill, h]
      cases j with
      | zero => simp
      | succ j => simpa using mark_fill os l j
    · cases l with
      | nil =>
        simp only [fill, h]
        cases j with
        | zero => simp
        | succ j => simpa using mark_fill os [] j
      | cons n r =>
        simp only [fill, h]
        cases j with
        | zero => simpa using mark_num h
        | succ j => simpa using mark_fill os r j
theorem shapeUpto_fill (s : ByteArray) (os : List Opd) (l : List Int) : ∀ k, shapeUpto s (fill os l) k = shapeUpto s os k
  | 0 => rfl
  | k + 1 => by
    show shapeUpto s (fill os l) k ++ sepAt k ++ mark07 ((fill os l).getD k default) = shapeUpto s os k ++ sepAt k ++ mark07 (os.getD k default)
    rw [shapeUpto_fill s os l k, mark_fill]
theorem shape_with {x : Ins} {l : List Int} (hc : check07 x = 0) (h : withOk x l = true) : shape07 (withI x l) = shape07 x := by
  have h2 : check07 ⟨x.op, fill x.args l⟩ = 0 := by
    unfold withOk at h
    rw [Bool.and_eq_true] at h
    simpa using h.2
  rw [withI_yes h]
  unfold shape07
  rw [h2, hc]
  simp only [beq_self_eq_true, if_true, fill_len]
  exact shapeUpto_fill x.op x.args l _
theorem OpdOwn.old {w : World} {q : Blocks} {v : Value} {l : List Opd} (h : OpdOwn w q v l) : OpdOwn w (fun k => q k ∧ k < w.heap.size) v l := by
  obtain ⟨a, cap, e, h1, h2, h3⟩ := h
  refine ⟨a, cap, e, h1, h2, fun i x hx => ?_⟩
  obtain ⟨b, o, ea, hq, hb, c0, c1, c2, f⟩ := h3 i x hx
  exact ⟨b, o, ea, ⟨hq, hb⟩, hb, c0, c1, c2, f⟩

/-- What stands while InstrKeeps works: all of it lies below block B. -/
structure KpH (w0 : World) (p : Blocks) (x : Ins) (ns : List Int) (B b2 b6 : Nat) (va vo vl : Value) (w : World) : Prop where
  below : Below w0.heap.size w0 w
  spc0 : Spc w0
  sx0 : SlR opdR w0 p va x.args
  k2 : Blk w b2 39 #[.string x.op, va]
  k6 : Blk w b6 39 #[.string x.op, vo]
  so : SlR opdR w (fun k => k < B) vo x.args
  sl : SlR intR w (fun k => k < B) vl ns
  hB : w0.heap.size ≤ B
  h2 : b2 < B
  h6 : b6 < B
theorem KpH.keep {w0 : World} {p : Blocks} {x : Ins} {ns : List Int} {B b2 b6 : Nat} {va vo vl : Value} {w w' : World} (h : KpH w0 p x ns B b2 b6 va vo vl w) (hb : Below B w w') : KpH w0 p x ns B b2 b6 va vo vl w' :=
  ⟨h.below.trans (hb.mono h.hB), h.spc0, h.sx0, h.k2.below hb h.h2, h.k6.below hb h.h6, h.so.keep (Keep.of_below hb fun _ hk => hk), h.sl.keep (Keep.of_below hb fun _ hk => hk), h.hB, h.h2, h.h6⟩
theorem KpH.next {w0 : World} {p : Blocks} {x : Ins} {ns : List Int} {B b2 b6 : Nat} {va vo vl : Value} {w w' : World} (h : KpH w0 p x ns B b2 b6 va vo vl w) (hBw : B ≤ w.heap.size) (hb : Below w.heap.size w w') : KpH w0 p x ns B b2 b6 va vo vl w' := h.keep (hb.mono hBw)
theorem KpH.sx {w0 : World} {p : Blocks} {x : Ins} {ns : List Int} {B b2 b6 : Nat} {va vo vl : Value} {w : World} (h : KpH w0 p x ns B b2 b6 va vo vl w) : SlR opdR w p va x.args := h.sx0.below h.below
theorem KpH.spc {w0 : World} {p : Blocks} {x : Ins} {ns : List Int} {B b2 b6 : Nat} {va vo vl : Value} {w : World} (h : KpH w0 p x ns B b2 b6 va vo vl w) : Spc w := h.spc0.below h.below

/-- The first result of With, whose operands the law writes over. -/
structure Kp8 (wB : World) (s : ByteArray) (n b8 : Nat) (v8 : Value) (l' : List Opd) (w : World) : Prop where
  below : Below wB.heap.size wB w
  len : l'.length = n
  blk : Blk w b8 39 #[.string s, v8]
  own : OpdOwn w (fun k => wB.heap.size ≤ k ∧ k ≠ b8) v8 l'
  h8 : wB.heap.size ≤ b8
theorem Kp8.setN {wB : World} {s : ByteArray} {m b8 b o n c k : Nat} {l' : List Opd} {x : Opd} {m' : Int} {w : World} (h : Kp8 wB s m b8 (.slice (some ⟨b, o, none⟩) n c) l' w) (hx : l'[k]? = some x) (hq : wB.heap.size ≤ b ∧ b ≠ b8) :
    Kp8 wB s m b8 (.slice (some ⟨b, o, none⟩) n c) (l'.set k { x with n := m' }) (w.setCell ⟨b, o + k * 3 + 2, none⟩ (.int .i64 m')) :=
  ⟨h.below.setCell hq.1 _, by rw [List.length_set]; exact h.len, h.blk.far (Ne.symm hq.2) _, h.own.setN hx, h.h8⟩

set_option maxHeartbeats 4000000 in
theorem InstrKeeps_any (p : Blocks) (x : Ins) (n : Int) (v : Value) (w : World) (h : SlR opdR w p v x.args) (hT : Spc w) (hz : x.op.size ≤ maxLen) :
    Calls Tryd.prog 14 #[.agg #[.string x.op, v], .int .i64 n] w fun e w' => e = .returned (.bool true) ∧ Below w.heap.size w w' := by
  obtain ⟨a, c, rfl, _⟩ := h.opd
  have H0 := Lib.hid (InsH.start h hT)
  have HX := Lib.hid h
  have HT := Lib.hid hT
  have HZ := Lib.hid hz
  clear h hT hz
  obtain ⟨a0, a1, _, _⟩ := H0.out.blk.two
  generalize hW : w.alloc (.cells #[.string x.op, .slice a x.args.length c] 39) = W at *
  have HW := Lib.hid hW
  clear hW
  have hsh := short7_any p x _ _ H0.out.sx
  cases hs : short8 x
  · rw [hs] at hsh
    have HSH := Lib.hid hsh
    clear hsh hs
    go_enter Tryd.func14, Tryd.ntmps14
    go_wp2_with fail
    rw [HW.out]
    refine HSH.out.mono ?_
    rintro e w1 ⟨rfl, hb⟩
    have H1 := Lib.hid (H0.out.next hb)
    clear hb
    go_wp2_with fail
    refine (alive7_any _ H1.out.spc).mono ?_
    rintro e w2 ⟨rfl, hb⟩
    have H2 := Lib.hid (H1.out.next hb)
    clear hb
    go_wp2
    go_ret
    exact ⟨rfl, H2.out.below⟩
  · have hn : x.args.length ≤ 20 := by
      have := hs
      simp [short8] at this
      exact this.2
    have HL := Lib.hid (show x.args.length ≤ 1000 by omega)
    have HN20 := Lib.hid hn
    have HL6 := Lib.hid (show x.args.length ≤ 1000000 by omega)
    rw [hs] at hsh
    have HSH := Lib.hid hsh
    clear hsh hs hn
    cases hc : (check07 x == 0)
    · have hne : (check07 x != 0) = true := by simpa [bne] using hc
      go_enter Tryd.func14, Tryd.ntmps14
      go_wp2_with fail
      rw [HW.out]
      refine HSH.out.mono ?_
      rintro e w1 ⟨rfl, hb⟩
      have H1 := Lib.hid (H0.out.next hb)
      obtain ⟨f0, f1, _, _⟩ := H1.out.blk.two
      clear hb a0 a1
      go_wp2_with fail
      refine (check07_any p x _ _ H1.out.sx).mono ?_
      rintro e w1' ⟨rfl, hb⟩
      have H1' := Lib.hid (H1.out.next hb)
      clear hb f0 f1
      go_wp2_with fail
      refine (alive7_any _ H1'.out.spc).mono ?_
      rintro e w2 ⟨rfl, hb⟩
      have H2 := Lib.hid (H1'.out.next hb)
      clear hb
      go_wp2
      go_ret
      exact ⟨rfl, H2.out.below⟩
    · have hc0 : check07 x = 0 := by simpa using hc
      have HC := Lib.hid hc0
      clear hc
      have hch := check07_any p x (.slice a x.args.length c)
      rw [hc0] at hch
      have HCH := Lib.hid hch
      clear hch hc0
      go_enter Tryd.func14, Tryd.ntmps14
      go_wp2_with fail
      rw [HW.out]
      refine HSH.out.mono ?_
      rintro e w1 ⟨rfl, hb⟩
      have H1 := Lib.hid (H0.out.next hb)
      obtain ⟨f0, f1, _, _⟩ := H1.out.blk.two
      clear hb a0 a1
      go_wp2_with fail
      refine (HCH.out _ H1.out.sx).mono ?_
      rintro e w2 ⟨rfl, hb⟩
      have H2 := Lib.hid (H1.out.next hb)
      have hs2 : w.heap.size < w2.heap.size := H2.out.blk.lt
      obtain ⟨g0, g1, _, _⟩ := H2.out.blk.two
      clear hb f0 f1
      go_wp2_with (at_builtin; refine wpList_append_empty rfl (.tmp 22) (.tmp 24) rfl p _ x.args rfl rfl H2.out.sx HL6.out ?_; intro a' c' w3 ho hb; have HO := Lib.hid ho; have H3 := Lib.hid (H2.out.next hb); have hs3 : w.heap.size < w3.heap.size := H3.out.blk.lt; obtain ⟨g0, g1, _, _⟩ := H3.out.blk.two; clear ho hb)
      have HB4 : Hid (Below w3.heap.size w3 (w3.alloc (.cells #[.string x.op, .slice a' x.args.length c'] 39))) := below_alloc w3 _
      refine (nums07_any p x _ _ (H3.out.sx.below HB4.out) HL6.out).mono ?_
      rintro e w4 ⟨v4, rfl, ho4, hb⟩
      obtain ⟨oa, oc, rfl⟩ := ho4.form
      have hnl := numsOf_len x.args
      have hs4 : w3.heap.size < w4.heap.size := by have := hb.size; simp at this; omega
      have hb34 : Below w3.heap.size w3 w4 := HB4.out.trans (hb.mono HB4.out.size)
      have H4 : Hid (KpH w p x [] w4.heap.size w.heap.size w3.heap.size (.slice a x.args.length c) (.slice a' x.args.length c') (.slice none 0 0) w4) :=
        ⟨H3.out.below.trans (hb34.mono H3.out.below.size), HT.out, HX.out, H3.out.blk.below hb34 H3.out.blk.lt, (Blk.new w3 _ _).below hb (by simp),
          (((HO.out.slR (q := fun _ => True) (fun _ _ => trivial) (fun _ _ => trivial)).below hb34).old).mono fun _ hk => hk.2, SlR.nil _ _ _, Nat.le_trans H3.out.below.size hb34.size, by omega, hs4⟩
      have hms : (numsOf x.args).length ≤ 20 := by have := HL.out; have := hnl; have h2 := HN20.out; omega
      generalize hm : (numsOf x.args).length = m at *
      have HM := Lib.hid hm
      clear hb hb34 ho4 hnl hm
      go_wp2
      go_loopw [7, 33] (fun lv i wr => ∃ k : Nat, k ≤ m ∧ i = .int .i64 k ∧ Own intR wr w4.heap.size 3 NoB lv (List.replicate k n) ∧ Below w4.heap.size w4 wr) (fun _ i _ => m - (intOf i).toNat)
      case atStart => exact ⟨0, Nat.zero_le _, rfl, Own.nil _ _ _ _ _, Below.refl _ _⟩
      case round =>
        obtain ⟨k, hk, rfl, ho, hb⟩ := hrel
        have HO5 := Lib.hid ho
        have HB5 := Lib.hid hb
        have hrl : (List.replicate k n).length = k := by simp
        have HRL := Lib.hid hrl
        obtain ⟨la, lc, rfl⟩ := ho.form
        clear ho hb
        by_cases hlt : k < m
        · have HRS : Hid (List.replicate (k + 1) n = List.replicate k n ++ [n]) := List.replicate_succ'
          generalize List.replicate k n = rs at *
          clear hrl
          go_wp2_with (at_builtin; refine wpList_push rfl (.tmp 35) (.tmp 37) 68 rfl w4.heap.size 3 8 elInt _ rs n _ rfl rfl HO5.out rfl (by have := HRL.out; omega) (by have := HRL.out; omega) HB5.out.size ?_; intro a'' c'' w' hp; have HP := Lib.hid hp; clear hp)
          go_roundw
          case rel => exact ⟨k + 1, by omega, by go_num, by rw [HRS.out]; exact HP.out.1, HB5.out.grown HP.out.2 HB5.out.size (fun j hj => (HO5.out.lt j hj).1)⟩
          case measure => simp [intOf]; omega
        · obtain rfl : k = m := by omega
          obtain ⟨wB, rfl⟩ : ∃ wB : World, wB = wr := ⟨_, rfl⟩
          have hsz : w4.heap.size ≤ wB.heap.size := HB5.out.size
          have hk5 := H4.out.keep HB5.out
          have hsl := HO5.out.slR (q := fun _ => True) (fun _ h => h.elim) (fun _ _ => trivial)
          have H5 : Hid (KpH w p x (List.replicate k n) wB.heap.size w.heap.size w3.heap.size (.slice a x.args.length c) (.slice a' x.args.length c') (.slice la (List.replicate k n).length lc) wB) :=
            ⟨hk5.below, hk5.spc0, hk5.sx0, hk5.k2, hk5.k6, hk5.so.mono fun _ hk => Nat.lt_of_lt_of_le hk hsz, hsl.old.mono fun _ hk => hk.2, Nat.le_trans hk5.hB hsz, Nat.lt_of_lt_of_le hk5.h2 hsz, Nat.lt_of_lt_of_le hk5.h6 hsz⟩
          have HWI := fun wz h1 h2 h3 => With_any (fun k => k < wB.heap.size) (fun k => k < wB.heap.size) x (List.replicate k n) (.slice a' x.args.length c') (.slice la (List.replicate k n).length lc) wz h1 h2 h3 HL.out HZ.out
          have HSHP := Lib.hid (fun h => shape_with (x := x) (l := List.replicate k n) HC.out h)
          have hz8 : (withI x (List.replicate k n)).op.size ≤ maxLen := by
            unfold withI
            split
            · exact HZ.out
            · exact Nat.zero_le _
          have HZ8 := Lib.hid hz8
          rw [hrl] at H5 HWI
          obtain ⟨q0, q1, _, _⟩ := H5.out.k6.two
          obtain ⟨r0, r1, _, _⟩ := H5.out.k2.two
          have hlt3 : w3.heap.size < wB.heap.size := H5.out.h6
          have hlt0 : w.heap.size < wB.heap.size := H5.out.h2
          clear hk5 hsl hrl hz8 g0 g1
          generalize withI x (List.replicate k n) = y at *
          generalize hok : withOk x (List.replicate k n) = ok at *
          have HOK := Lib.hid hok
          clear hok
          have HWI := Lib.hid HWI
          rw [show ((List.replicate k n).length) = k by simp]
          go_wp2_with fail
          refine (HWI.out wB H5.out.so H5.out.sl H5.out.spc).mono ?_
          rintro e w6 ⟨⟨v8, rfl, ho8⟩, hb⟩
          have h8 := ho8.old
          obtain ⟨a8, c8, rfl, _⟩ := ho8
          have hb6 : Below wB.heap.size wB (w6.alloc (.cells #[.string y.op, .slice a8 y.args.length c8] 39)) := hb.alloc hb.size _
          have h86 := hb.size
          have H8 : Hid (Kp8 wB y.op y.args.length w6.heap.size (.slice a8 y.args.length c8) y.args (w6.alloc (.cells #[.string y.op, .slice a8 y.args.length c8] 39))) :=
            ⟨hb6, rfl, Blk.new w6 _ _, (h8.mono fun k hk => ⟨hk.1, Nat.ne_of_lt hk.2⟩).below (below_alloc w6 _), h86⟩
          clear hb hb6 h8
          go_wp2
          go_loopw [49] (fun i wz => ∃ (j : Nat) (l' : List Opd), j ≤ y.args.length ∧ i = .int .i64 j ∧ Kp8 wB y.op y.args.length w6.heap.size (.slice a8 y.args.length c8) l' wz) (fun i _ => y.args.length - (intOf i).toNat)
          case atStart => exact ⟨0, y.args, Nat.zero_le _, rfl, H8.out⟩
          case round =>
            obtain ⟨j, l', hj, rfl, hh⟩ := hrel
            have HR := Lib.hid hh
            obtain ⟨p0, p1, _, _⟩ := hh.blk.two
            by_cases hlt : j < y.args.length
            · obtain ⟨z, hat⟩ : ∃ z, l'[j]? = some z := ⟨l'[j]'(by rw [hh.len]; exact hlt), List.getElem?_eq_getElem _⟩
              obtain ⟨ax, cx, ex, _, _, g⟩ := hh.own
              injection ex with e1 e2 e3
              clear e2
              subst e1 e3
              obtain ⟨b, o, rfl, hq, hb, c0, c1, c2', fr⟩ := g j _ hat
              have f2 := fr (o + j * 3 + 2)
              have HSET := Lib.hid (fun m => HR.out.setN (m' := m) hat hq)
              have hqn := hq.2
              clear g hat fr hq hh
              go_wp2
              go_roundw
              case rel => exact ⟨j + 1, _, by omega, by go_num, HSET.out _⟩
              case measure => simp [intOf]; omega
            · have HBZ := Lib.hid hh.below
              have H9 := Lib.hid (H5.out.keep hh.below)
              have hszz : wB.heap.size ≤ wr.heap.size := hh.below.size
              obtain ⟨q0, q1, _, _⟩ := H9.out.k6.two
              clear hh r0 r1
              go_wp2_with fail
              refine (HWI.out wr H9.out.so H9.out.sl H9.out.spc).mono ?_
              rintro e w10 ⟨⟨v11, rfl, ho11⟩, hb⟩
              have HS11 := Lib.hid (ho11.slR.mono (q := fun _ => True) fun _ _ => trivial)
              obtain ⟨a11, c11, rfl, _⟩ := ho11
              have H10 := Lib.hid (H9.out.next hszz hb)
              have hsz10 : wB.heap.size ≤ w10.heap.size := Nat.le_trans hszz hb.size
              clear hb q0 q1
              go_upto_region 17 with fail
              obtain ⟨W11, hW11⟩ : ∃ W : World, W = w10.alloc (.cells #[.string y.op, .slice a11 y.args.length c11] 39) := ⟨_, rfl⟩
              have K11 : Hid (Blk W11 w10.heap.size 39 #[.string y.op, .slice a11 y.args.length c11]) := hW11 ▸ Blk.new w10 _ _
              have hb11 : Below w10.heap.size w10 W11 := hW11 ▸ below_alloc w10 _
              have H11 := Lib.hid (H10.out.next hsz10 hb11)
              have HS11b := Lib.hid (HS11.out.below hb11)
              have hsz11 : wB.heap.size ≤ W11.heap.size := Nat.le_trans hsz10 hb11.size
              clear hb11
              rw [← hW11]
              clear hW11
              have H12 : Hid (∀ d os, KpH w p x (List.replicate k n) wB.heap.size w.heap.size w3.heap.size (.slice a x.args.length c) (.slice a' x.args.length c') (.slice la k lc) (grow (redrawn W11 d) os)) := fun d os => H11.out.next hsz11 (below_regrown W11 d os)
              have HS12 : Hid (∀ d os, SlR opdR (grow (redrawn W11 d) os) (fun _ => True) (.slice a11 y.args.length c11) y.args) := fun d os => HS11b.out.below (below_regrown W11 d os)
              have E0 : ∀ d os, (grow (redrawn W11 d) os).cell? ⟨w.heap.size, 0, none⟩ = some (.string x.op) := fun d os => (H12.out d os).k2.two.1
              have E1 : ∀ d os, (grow (redrawn W11 d) os).cell? ⟨w.heap.size, 1, none⟩ = some (.slice a x.args.length c) := fun d os => (H12.out d os).k2.two.2.1
              have E2 : ∀ d os, (grow (redrawn W11 d) os).cell? ⟨w3.heap.size, 0, none⟩ = some (.string x.op) := fun d os => (H12.out d os).k6.two.1
              have E3 : ∀ d os, (grow (redrawn W11 d) os).cell? ⟨w3.heap.size, 1, none⟩ = some (.slice a' x.args.length c') := fun d os => (H12.out d os).k6.two.2.1
              have E4 : ∀ d os, (grow (redrawn W11 d) os).cell? ⟨w10.heap.size, 0, none⟩ = some (.string y.op) := fun d os => cell_regrown K11.out.two.1 d os
              have E5 : ∀ d os, (grow (redrawn W11 d) os).cell? ⟨w10.heap.size, 1, none⟩ = some (.slice a11 y.args.length c11) := fun d os => cell_regrown K11.out.two.2.1 d os
              have HAL : Hid (∀ d os, Calls Tryd.prog 47 #[] (grow (redrawn W11 d) os) fun e w' => e = .returned (.bool true) ∧ Below (grow (redrawn W11 d) os).heap.size (grow (redrawn W11 d) os) w') := fun d os => alive7_any _ (H12.out d os).spc
              have HSM : Hid (∀ d os, Calls Tryd.prog 32 #[.agg #[.string x.op, .slice a' x.args.length c'], .agg #[.string x.op, .slice a x.args.length c]] (grow (redrawn W11 d) os) fun e w' => e = .returned (.bool true) ∧ Below (grow (redrawn W11 d) os).heap.size (grow (redrawn W11 d) os) w') := fun d os => by
                have h := ref07Same_any _ _ x x _ _ _ (H12.out d os).so (H12.out d os).sx
                rw [insEq_refl] at h
                exact h
              have HSY : Hid (∀ d os, Calls Tryd.prog 48 #[.agg #[.string y.op, .slice a11 y.args.length c11]] (grow (redrawn W11 d) os) fun e w' => e = .returned (.string (shape07 y)) ∧ Below (grow (redrawn W11 d) os).heap.size (grow (redrawn W11 d) os) w') := fun d os => shape_any _ y _ _ (HS12.out d os) (H12.out d os).spc HZ8.out
              have HSX : Hid (∀ d os, Calls Tryd.prog 49 #[.agg #[.string x.op, .slice a x.args.length c]] (grow (redrawn W11 d) os) fun e w' => e = .returned (.string (shape07 x)) ∧ Below (grow (redrawn W11 d) os).heap.size (grow (redrawn W11 d) os) w') := fun d os => shape07_any _ x _ _ (H12.out d os).sx
              cases ok
              · refine wp_region_quiet_below (by kernel_rfl) (by kernel_rfl) ?_
                repeat (go_big_quiet_step (first | exact Calls.regrown_of (HAL.out _ _) | exact Calls.regrown_of (HSM.out _ _)))
                refine wpQuiet_nil ?_
                intro _ hw'
                obtain ⟨⟨dq, osq⟩, hw''⟩ := hw'
                subst hw''
                have HFB := Lib.hid (H12.out dq osq).below
                clear E0 E1 E2 E3 E4 E5
                show Exit.then _ _ Exit.normal _ (grow (redrawn W11 dq) osq)
                generalize grow (redrawn W11 dq) osq = W13 at *
                go_wp2
                go_ret
                exact ⟨rfl, HFB.out⟩
              · rw [HSHP.out rfl] at HSY
                refine wp_region_quiet_below (by kernel_rfl) (by kernel_rfl) ?_
                repeat (go_big_quiet_step (first | exact Calls.regrown_of (HAL.out _ _) | exact Calls.regrown_of (HSM.out _ _) | exact Calls.regrown_of (HSY.out _ _) | exact Calls.regrown_of (HSX.out _ _)))
                refine wpQuiet_nil ?_
                intro _ hw'
                obtain ⟨⟨dq, osq⟩, hw''⟩ := hw'
                subst hw''
                have HFB := Lib.hid (H12.out dq osq).below
                clear E0 E1 E2 E3 E4 E5
                show Exit.then _ _ Exit.normal _ (grow (redrawn W11 dq) osq)
                generalize grow (redrawn W11 dq) osq = W13 at *
                go_wp2
                go_ret
                exact ⟨rfl, HFB.out⟩
end Go.Proofs.YtkkjoghfdmmpaaaDoor
