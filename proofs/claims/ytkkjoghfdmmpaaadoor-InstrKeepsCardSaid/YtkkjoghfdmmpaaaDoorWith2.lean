/-
  breadboardref07.With. Conditions: the lists' lengths.
-/
import Derived.Test.YtkkjoghfdmmpaaaDoorWith1
namespace Go.Proofs.YtkkjoghfdmmpaaaDoor
open Go.RowKit

theorem wpList_pushH {P : Program} {α : Type} {n : Nat} {enc : α → List Value} {h0 : ∀ x, (enc x).length = n} {h1 : ∀ x, ∀ u ∈ enc x, u.oneCell' = true}
    {ops : Array Oper} {rest : List Oper} {o : Oper} {a : Act} {w : World} {Q : Exit → Act → World → Prop} (H : Nat) (hH : H = w.heap.size) (hgd : o.guard = none) (s x : Operand) (t : TypeId)
    (ho : o.op = .call { callee := .builtin .append, args := #[s, x], argTypes := #[t, t] })
    (B : Nat) (e : TypeId) (bytes : Nat) (hE : ElT P t e n bytes) (v : Value) (xs : List α) (y : α) (cs : Array Value) (hs : a.eval s = v) (hxe : a.eval x = .slice (some ⟨H, 0, none⟩) 1 1) (hown : Own (Rep.flat n enc h0 h1) w B e NoB v xs)
    (hcs : cs = (enc y).toArray) (hbytes : (xs.length + 1) * bytes ≤ 140737488355328) (hlen : xs.length + 1 ≤ 9223372036854775807) (hB : B ≤ w.heap.size)
    (h : ∀ a' c' w', Pushed (Rep.flat n enc h0 h1) w B e v.ownBlock (xs ++ [y]) (.slice a' (xs.length + 1) c') w' → wpList P ops Q rest (a.put o.dst (.slice a' (xs.length + 1) c')) w') : wpList P ops Q (o :: rest) a (w.alloc (.cells cs e)) := by
  subst hH
  exact wpList_push hgd s x t ho B e bytes hE v xs y cs hs hxe hown hcs hbytes hlen hB h
/-- What stands while the reference's With works. -/
structure W7H (w0 : World) (p q : Blocks) (x : Ins) (l : List Int) (b2 b4 b6 : Nat) (va vl vo : Value) (done : List Opd) (w : World) : Prop where
  below : Below w0.heap.size w0 w
  sx0 : SlR opdR w0 p va x.args
  sl0 : SlR intR w0 q vl l
  arg : Blk w b2 39 #[.string x.op, va]
  res : Blk w b4 39 #[.string ⟨#[]⟩, .slice none 0 0]
  out : Blk w b6 39 #[.string x.op, vo]
  own : Own opdR w (b6 + 1) 47 NoB vo done
  h2 : w0.heap.size ≤ b2
  h4 : w0.heap.size ≤ b4
  h24 : b2 < b6 ∧ b4 < b6
theorem W7H.next {w0 : World} {p q : Blocks} {x : Ins} {l : List Int} {b2 b4 b6 : Nat} {va vl vo : Value} {done : List Opd} {w w' : World} (h : W7H w0 p q x l b2 b4 b6 va vl vo done w) (hb : Below w.heap.size w w') : W7H w0 p q x l b2 b4 b6 va vl vo done w' :=
  ⟨h.below.trans (hb.mono h.below.size), h.sx0, h.sl0, h.arg.below hb h.arg.lt, h.res.below hb h.res.lt, h.out.below hb h.out.lt, h.own.stay hb, h.h2, h.h4, h.h24⟩
theorem W7H.sx {w0 : World} {p q : Blocks} {x : Ins} {l : List Int} {b2 b4 b6 : Nat} {va vl vo : Value} {done : List Opd} {w : World} (h : W7H w0 p q x l b2 b4 b6 va vl vo done w) : SlR opdR w p va x.args := h.sx0.below h.below
theorem W7H.sl {w0 : World} {p q : Blocks} {x : Ins} {l : List Int} {b2 b4 b6 : Nat} {va vl vo : Value} {done : List Opd} {w : World} (h : W7H w0 p q x l b2 b4 b6 va vl vo done w) : SlR intR w q vl l := h.sl0.below h.below
/-- one more operand, laid beside and appended -/
theorem W7H.step {w0 : World} {p q : Blocks} {x : Ins} {l : List Int} {b2 b4 b6 : Nat} {va vl vo : Value} {done : List Opd} {y : Opd} {v' : Value} {w w' : World} (h : W7H w0 p q x l b2 b4 b6 va vl vo done w) (hp : Pushed opdR w (b6 + 1) 47 vo.ownBlock (done ++ [y]) v' w') :
    W7H w0 p q x l b2 b4 b6 va vl v' (done ++ [y]) (w'.setCell ⟨b6, 1, none⟩ v') := by
  have hlt := h.own.lt
  have h24 := h.h24
  have hne : ∀ k, k ≤ b6 → some k ≠ vo.ownBlock := fun k hk e => by have := (hlt k e.symm).1; omega
  have hb6 : w0.heap.size ≤ b6 := by have := h.h2; omega
  exact ⟨(h.below.grown hp.2 h.below.size (fun k hk => by have := (hlt k hk).1; omega)).setCell (p := ⟨b6, 1, none⟩) hb6 _, h.sx0, h.sl0,
    (h.arg.grown hp.2 (hne b2 (by omega))).far (by show b2 ≠ b6; omega) _, (h.res.grown hp.2 (hne b4 (by omega))).far (by show b4 ≠ b6; omega) _,
    (h.out.grown hp.2 (hne b6 (Nat.le_refl _))).set 1 _,
    hp.1.keep (Keep.setCell (fun k hk => by rcases hk with hk | hk; exact hk.elim; have := (hp.1.lt k hk).1; show k ≠ b6; omega) _), h.h2, h.h4, h.h24⟩
theorem W7H.outAt {w0 : World} {p q : Blocks} {x : Ins} {l : List Int} {b2 b4 b6 : Nat} {va vl vo : Value} {done zs : List Opd} {v' : Value} {w w' : World} (h : W7H w0 p q x l b2 b4 b6 va vl vo done w) (hp : Pushed opdR w (b6 + 1) 47 vo.ownBlock zs v' w') :
    Blk w' b6 39 #[.string x.op, vo] := h.out.grown hp.2 (fun e => by have := (h.own.lt _ e.symm).1; omega)
theorem W7H.setFar {w0 : World} {p q : Blocks} {x : Ins} {l : List Int} {b2 b4 b6 b o : Nat} {va vl vo : Value} {done : List Opd} {w : World} (h : W7H w0 p q x l b2 b4 b6 va vl vo done w) (hb : b6 < b) (ho : ∀ k, vo.ownBlock = some k → k < b) (u : Value) :
    W7H w0 p q x l b2 b4 b6 va vl vo done (w.setCell ⟨b, o, none⟩ u) := by
  have h24 := h.h24
  have hb0 : w0.heap.size ≤ b := by have := h.h2; omega
  exact ⟨h.below.setCell (p := ⟨b, o, none⟩) hb0 _, h.sx0, h.sl0, h.arg.far (by show b2 ≠ b; omega) _, h.res.far (by show b4 ≠ b; omega) _, h.out.far (by show b6 ≠ b; omega) _,
    h.own.keep (Keep.setCell (fun k hk => by rcases hk with hk | hk; exact hk.elim; have := ho k hk; show k ≠ b; omega) _), h.h2, h.h4, h.h24⟩
theorem fill_step {os : List Opd} {l : List Int} {k : Nat} (h : k < os.length) : fill (os.take (k + 1)) l = fill (os.take k) l ++ [put1 os[k] (l.drop (numsOf (os.take k)).length)] := by
  rw [List.take_succ_eq_append_getElem h, fill_snoc]
theorem put1_no {y : Opd} {r : List Int} (h : hasNum y = false) : put1 y r = y := by simp [put1, h]
theorem put1_yes {y : Opd} {l : List Int} {m : Nat} (h : hasNum y = true) (hm : m < l.length) : put1 y (l.drop m) = { y with n := l[m] } := by
  rw [List.drop_eq_getElem_cons hm]; simp [put1, h]

set_option maxHeartbeats 4000000 in
theorem With07_any (p q : Blocks) (x : Ins) (l : List Int) (v vl : Value) (w : World) (h : SlR opdR w p v x.args) (hl : SlR intR w q vl l) (hn : x.args.length ≤ 1000) :
    Calls Tryd.prog 62 #[.agg #[.string x.op, v], vl] w fun e w' => (∃ v', e = .returned (.tuple #[.agg #[.string (withI x l).op, v'], .bool (withOk x l)]) ∧ SlR opdR w' (fun _ => True) v' (withI x l).args) ∧ Below w.heap.size w w' := by
  obtain ⟨a, c, rfl, _⟩ := h.opd
  obtain ⟨la, lc, rfl, _⟩ := hl.int
  have HX := Lib.hid h
  have HL := Lib.hid hl
  have HN := Lib.hid hn
  obtain ⟨W, hW⟩ : ∃ W : World, W = (w.alloc (.cells #[.string x.op, .slice a x.args.length c] 39)).alloc (.cells #[.string ⟨#[]⟩, .slice none 0 0] 39) := ⟨_, rfl⟩
  have hbW : Below w.heap.size w W := hW ▸ ((Below.refl _ _).alloc (Nat.le_refl _) _).alloc (by simp) _
  have k2 : Blk W w.heap.size 39 #[.string x.op, .slice a x.args.length c] := hW ▸ (Blk.new w _ _).alloc _
  have k4 : Blk W (w.heap.size + 1) 39 #[.string ⟨#[]⟩, .slice none 0 0] := by
    have := Blk.new (w.alloc (.cells #[.string x.op, .slice a x.args.length c] 39)) 39 #[.string ⟨#[]⟩, .slice none 0 0]
    rw [hW]; simpa using this
  have HBW := Lib.hid hbW
  have HK2 := Lib.hid k2
  have HK4 := Lib.hid k4
  have HNU := Lib.hid (nums07_any p x _ W (h.below hbW) (by omega))
  obtain ⟨a0, a1, _, _⟩ := k2.two
  clear h hl hn hbW k2 k4
  by_cases hlen : (numsOf x.args).length = l.length
  · go_enter Tryd.func62, Tryd.ntmps62
    go_wp2_with fail
    rw [← hW]
    clear hW
    refine HNU.out.mono ?_
    rintro e w1 ⟨v1, rfl, ho, hb⟩
    obtain ⟨oa, oc, rfl⟩ := ho.form
    have hlt4 : w.heap.size + 1 < w1.heap.size := Nat.lt_of_lt_of_le HK4.out.lt hb.size
    have hk2 := HK2.out.below hb HK2.out.lt
    obtain ⟨b0, b1, _, _⟩ := hk2.two
    have H0 : Hid (W7H w p q x l w.heap.size (w.heap.size + 1) w1.heap.size (.slice a x.args.length c) (.slice la l.length lc) (.slice none 0 0) [] (w1.alloc (.cells #[.string x.op, .slice none 0 0] 39))) :=
      ⟨(HBW.out.trans (hb.mono HBW.out.size)).alloc (by omega) _, HX.out, HL.out, hk2.alloc _, (HK4.out.below hb HK4.out.lt).alloc _, Blk.new w1 _ _, Own.nil _ _ _ _ _, Nat.le_refl _, Nat.le_succ _, by omega⟩
    have HLEN := Lib.hid hlen
    rw [hlen]
    clear hb ho hk2 a0 a1 hlen
    go_wp2
    go_loopw [7, 8] (fun j i wr => ∃ (k : Nat) (vo : Value), k ≤ x.args.length ∧ i = .int .i64 k ∧ j = .int .i64 (numsOf (x.args.take k)).length ∧ W7H w p q x l w.heap.size (w.heap.size + 1) w1.heap.size (.slice a x.args.length c) (.slice la l.length lc) vo (fill (x.args.take k) l) wr) (fun _ i _ => x.args.length - (intOf i).toNat)
    case atStart => exact ⟨0, _, Nat.zero_le _, rfl, by simp [numsOf], by simpa [fill] using H0.out⟩
    case round =>
      obtain ⟨k, vo, hk, rfl, rfl, hh⟩ := hrel
      have H := Lib.hid hh
      clear b0 b1
      obtain ⟨a0, a1, _, _⟩ := hh.arg.two
      obtain ⟨r0, r1, _, _⟩ := hh.res.two
      obtain ⟨p0, p1, _, _⟩ := hh.out.two
      obtain ⟨oo, ooc, rfl⟩ := hh.own.form
      by_cases hlt : k < x.args.length
      · obtain ⟨ad, cd, hv, _, _, g1⟩ := hh.sx.opd
        obtain ⟨rfl, _, rfl⟩ : a = ad ∧ x.args.length = x.args.length ∧ c = cd := by injection hv with h1 h2 h3; exact ⟨h1, h2, h3⟩
        obtain ⟨b2, o2, rfl, _, d1, d2, d3⟩ := g1 k x.args[k] (List.getElem?_eq_getElem hlt)
        obtain ⟨ld, lcd, hlv, _, _, g2⟩ := hh.sl.int
        obtain ⟨rfl, _, rfl⟩ : la = ld ∧ l.length = l.length ∧ lc = lcd := by injection hlv with h1 h2 h3; exact ⟨h1, h2, h3⟩
        have HST := Lib.hid (fill_step (l := l) hlt)
        have HNN := Lib.hid (fun hn => nums_step_no (k := k) hlt hn)
        have HNY := Lib.hid (fun hn => nums_step_yes (k := k) hlt hn)
        have HLT := Lib.hid (fun hn => nums_lt (k := k) hlt hn)
        have HG2 := Lib.hid g2
        have hfl : (fill (x.args.take k) l).length ≤ 1000 := by rw [fill_len, List.length_take]; have := HN.out; omega
        have HFL := Lib.hid hfl
        have hnu := fun wz => number_any x.args[k] wz
        clear g1 g2 hv hlv hh hfl
        generalize (numsOf (x.args.take k)).length = m at *
        generalize fill (x.args.take k) l = done at *
        generalize x.args[k] = y at *
        have HA : Hid (Below wr.heap.size wr (wr.alloc (.cells #[.int .i64 y.kind, .int .i64 y.reg, .int .i64 y.n] 47))) := below_alloc wr _
        have HKA : Hid (Blk (wr.alloc (.cells #[.int .i64 y.kind, .int .i64 y.reg, .int .i64 y.n] 47)) wr.heap.size 47 #[.int .i64 y.kind, .int .i64 y.reg, .int .i64 y.n]) := Blk.new wr _ _
        cases hy : hasNum y
        all_goals
          rw [hy] at hnu
          have HNU2 := Lib.hid hnu
          have HY := Lib.hid hy
          clear hnu hy
        · go_wp2_with (first | (go_at_call 105; refine (HNU2.out _).mono ?_; rintro e w2 ⟨rfl, hb⟩; have HB2 := Lib.hid (HA.out.trans (hb.mono HA.out.size)); have HK2 := Lib.hid (HKA.out.below hb HKA.out.lt); have H2 := Lib.hid (H.out.next HB2.out); obtain ⟨c0, c1, c2, _, _, _⟩ := HK2.out.three; obtain ⟨p0, p1, _, q1⟩ := H2.out.out.two; clear hb)
                             | (at_builtin; refine wpList_push rfl (.tmp 42) (.tmp 44) 37 rfl (w1.heap.size + 1) 47 24 elOpd _ done y _ rfl rfl H2.out.own rfl (by have := HFL.out; omega) (by have := HFL.out; omega) H2.out.out.lt ?_; intro a' c' w' hp; have HP := Lib.hid (H2.out.step hp); obtain ⟨_, x1, _, x2⟩ := (H2.out.outAt hp).two; clear hp))
          go_roundw
          case rel => exact ⟨k + 1, _, by omega, by go_num, by rw [HNN.out HY.out], by rw [HST.out, put1_no HY.out]; exact HP.out⟩
          case measure => simp [intOf]; omega
        · have hml : m < l.length := by have := HLT.out HY.out; have := HLEN.out; omega
          obtain ⟨bn, on, rfl, _, e0⟩ := HG2.out m l[m] (List.getElem?_eq_getElem hml)
          have HPY := Lib.hid (put1_yes (l := l) HY.out hml)
          have hmi : (m : Int) < l.length := by omega
          have hmb : m ≤ 1000 := by have := HLT.out HY.out; have := numsOf_len x.args; have := HN.out; omega
          generalize l[m] = z at *
          have hbn := World.block_lt_of_cell? _ _ e0
          go_wp2_with (first | (go_at_call 105; refine (HNU2.out _).mono ?_; rintro e w2 ⟨rfl, hb⟩; have e0 : w2.cell? ⟨bn, on + m, none⟩ = some (.int .i64 z) := ((HA.out.trans (hb.mono HA.out.size)).cell (p := ⟨bn, on + m, none⟩) hbn).trans e0; have HB2 := Lib.hid (HA.out.trans (hb.mono HA.out.size)); have HK2 := Lib.hid (HKA.out.below hb HKA.out.lt); have H2 := Lib.hid (H.out.next HB2.out); have hfar := H2.out.setFar (b := wr.heap.size) (o := 2) H.out.out.lt (fun k hk => (H.out.own.lt k hk).2) (.int .i64 z); have H3 := Lib.hid hfar; have HK3 := Lib.hid (HK2.out.set 2 (.int .i64 z)); obtain ⟨c0, c1, c2, _, _, f2⟩ := HK2.out.three; obtain ⟨d0, d1, d2, _, _, _⟩ := HK3.out.three; obtain ⟨p0, p1, _, q1⟩ := H2.out.out.two; obtain ⟨p0', p1', _, q1'⟩ := H3.out.out.two; clear hb hfar)
                             | (at_builtin; refine wpList_pushH w2.heap.size (by simp) rfl (.tmp 42) (.tmp 44) 37 rfl (w1.heap.size + 1) 47 24 elOpd _ done ⟨y.kind, y.reg, z⟩ _ rfl rfl H3.out.own rfl (by have := HFL.out; omega) (by have := HFL.out; omega) H3.out.out.lt ?_; intro a' c' w' hp; have HP := Lib.hid (H3.out.step hp); obtain ⟨_, x1, _, x2⟩ := (H3.out.outAt hp).two; clear hp))
          go_roundw
          case rel => exact ⟨k + 1, _, by omega, by go_num, by rw [HNY.out HY.out]; go_num, by rw [HST.out, HPY.out]; exact HP.out⟩
          case measure => simp [intOf]; omega
      · obtain rfl : k = x.args.length := by omega
        rw [List.take_length] at hh p1
        clear H
        have H := Lib.hid hh
        have HO := Lib.hid hh.own
        have hlf := fill_len x.args l
        have HSF := Lib.hid (HO.out.slR (q := fun k => w1.heap.size < k) (fun _ h => h.elim) (fun k hk => by omega))
        have hvc := withOk_check HLEN.out
        have hch := check07_any (fun _ => True) ⟨x.op, fill x.args l⟩ _ wr (HSF.out.mono fun _ _ => trivial)
        cases hc : (check07 ⟨x.op, fill x.args l⟩ == 0)
        · rw [hc] at hvc
          have hne : (check07 ⟨x.op, fill x.args l⟩ != 0) = true := by simpa [bne] using hc
          have HV := Lib.hid hvc
          have HVI : Hid (withI x l = insZ) := withI_no HV.out
          have HCH := Lib.hid hch
          clear hh hvc hch hlf
          go_wp2_with (go_at_call 38; refine HCH.out.mono ?_; rintro e w2 ⟨rfl, hb2⟩; have H2 := Lib.hid (H.out.next hb2); obtain ⟨t0, t1, u0, u1⟩ := H2.out.res.two; clear hb2)
          have hk3 := (H2.out.res.set 0 (.string ⟨#[]⟩)).set 1 (.slice none 0 0)
          refine bodyPost_ret (results_row_tmp rfl _ _ (w.heap.size + 1) 39 #[.string ⟨#[]⟩, .slice none 0 0] (0, 0) _ rfl hk3 Tryd.underlying39 rfl (by kernel_rfl)) rfl ?_
          rw [HV.out, HVI.out]
          exact ⟨⟨_, rfl, SlR.nil _ _ _⟩, (H2.out.below.setCell (p := ⟨w.heap.size + 1, 0, none⟩) (Nat.le_succ _) _).setCell (p := ⟨w.heap.size + 1, 1, none⟩) (Nat.le_succ _) _⟩
        · rw [hc] at hvc
          have hc0 : check07 ⟨x.op, fill x.args l⟩ = 0 := by simpa using hc
          rw [hc0] at hch
          have HV := Lib.hid hvc
          have HVI := Lib.hid (withI_yes HV.out)
          have HCH := Lib.hid hch
          have h46 := H.out.h24.2
          clear hh hvc hch hlf hc hc0
          go_wp2_with (go_at_call 38; refine HCH.out.mono ?_; rintro e w2 ⟨rfl, hb2⟩; have H2 := Lib.hid (H.out.next hb2); have HSF2 := Lib.hid (HSF.out.below hb2); obtain ⟨t0, t1, u0, u1⟩ := H2.out.res.two; obtain ⟨p0, p1, _, _⟩ := H2.out.out.two; clear hb2)
          have hk3 := (H2.out.res.set 0 (.string x.op)).set 1 (.slice oo (fill x.args l).length ooc)
          refine bodyPost_ret (results_row_tmp rfl _ _ (w.heap.size + 1) 39 #[.string x.op, .slice oo (fill x.args l).length ooc] (0, 0) _ rfl hk3 Tryd.underlying39 rfl (by kernel_rfl)) rfl ?_
          rw [HV.out, HVI.out]
          exact ⟨⟨_, rfl, ((HSF2.out.keep (Keep.setCell (fun k hk => by show k ≠ w.heap.size + 1; omega) _)).keep (Keep.setCell (fun k hk => by show k ≠ w.heap.size + 1; omega) _)).mono fun _ _ => trivial⟩, (H2.out.below.setCell (p := ⟨w.heap.size + 1, 0, none⟩) (Nat.le_succ _) _).setCell (p := ⟨w.heap.size + 1, 1, none⟩) (Nat.le_succ _) _⟩
  · have hnb : decide (((numsOf x.args).length : Int) = l.length) = false := by simp; omega
    have HV : Hid (withOk x l = false) := withOk_len hlen
    have HVI : Hid (withI x l = insZ) := withI_no HV.out
    go_enter Tryd.func62, Tryd.ntmps62
    go_wp2_with fail
    rw [← hW]
    clear hW
    refine HNU.out.mono ?_
    rintro e w1 ⟨v1, rfl, ho, hb⟩
    obtain ⟨oa, oc, rfl⟩ := ho.form
    have HB1 := Lib.hid (HBW.out.trans (hb.mono HBW.out.size))
    have HK1 := Lib.hid (HK4.out.below hb HK4.out.lt)
    obtain ⟨t0, t1, u0, u1⟩ := HK1.out.two
    clear hb ho a0 a1
    go_wp2
    have hk3 := (HK1.out.set 0 (.string ⟨#[]⟩)).set 1 (.slice none 0 0)
    refine bodyPost_ret (results_row_tmp rfl _ _ (w.heap.size + 1) 39 #[.string ⟨#[]⟩, .slice none 0 0] (0, 0) _ rfl hk3 Tryd.underlying39 rfl (by kernel_rfl)) rfl ?_
    rw [HV.out, HVI.out]
    exact ⟨⟨_, rfl, SlR.nil _ _ _⟩, (HB1.out.setCell (p := ⟨w.heap.size + 1, 0, none⟩) (Nat.le_succ _) _).setCell (p := ⟨w.heap.size + 1, 1, none⟩) (Nat.le_succ _) _⟩
end Go.Proofs.YtkkjoghfdmmpaaaDoor
