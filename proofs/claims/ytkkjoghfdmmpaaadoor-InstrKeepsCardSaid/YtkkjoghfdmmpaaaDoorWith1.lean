/-
  instr.With. Conditions: the list's length.
-/
import Derived.Test.YtkkjoghfdmmpaaaDoorWith0
import Derived.Test.YtkkjoghfdmmpaaaDoorChecks3
import Derived.BigRegion
namespace Go.Proofs.YtkkjoghfdmmpaaaDoor
open Go.RowKit

/-- What stands while With works: the result's block b4, the new instruction's block b6. -/
structure WiH (w0 : World) (s : ByteArray) (b4 b6 : Nat) (vr : Value) (args : List Opd) (w : World) : Prop where
  below : Below w0.heap.size w0 w
  spc0 : Spc w0
  res : Blk w b4 39 #[.string ⟨#[]⟩, .slice none 0 0]
  out : Blk w b6 39 #[.string s, vr]
  own : OpdOwn w (fun k => w0.heap.size ≤ k ∧ k ≠ b4 ∧ k ≠ b6) vr args
  h4 : w0.heap.size ≤ b4
  h6 : w0.heap.size ≤ b6
theorem WiH.next {w0 : World} {s : ByteArray} {b4 b6 : Nat} {vr : Value} {args : List Opd} {w w' : World} (h : WiH w0 s b4 b6 vr args w) (hb : Below w.heap.size w w') : WiH w0 s b4 b6 vr args w' :=
  ⟨h.below.trans (hb.mono h.below.size), h.spc0, h.res.below hb h.res.lt, h.out.below hb h.out.lt, h.own.below hb, h.h4, h.h6⟩
theorem WiH.setN {w0 : World} {s : ByteArray} {b4 b6 b o n c k : Nat} {args : List Opd} {x : Opd} {m : Int} {w : World} (h : WiH w0 s b4 b6 (.slice (some ⟨b, o, none⟩) n c) args w) (hx : args[k]? = some x) (hq : w0.heap.size ≤ b ∧ b ≠ b4 ∧ b ≠ b6) :
    WiH w0 s b4 b6 (.slice (some ⟨b, o, none⟩) n c) (args.set k { x with n := m }) (w.setCell ⟨b, o + k * 3 + 2, none⟩ (.int .i64 m)) :=
  ⟨h.below.setCell hq.1 _, h.spc0, h.res.far (Ne.symm hq.2.1) _, h.out.far (Ne.symm hq.2.2) _, h.own.setN hx, h.h4, h.h6⟩
theorem WiH.drew {w0 : World} {s : ByteArray} {b4 b6 : Nat} {vr : Value} {args : List Opd} {w : World} (h : WiH w0 s b4 b6 vr args w) : WiH w0 s b4 b6 vr args w.drew := h.next (below_drew w)

theorem opdOwn_nil (w : World) (q : Blocks) : OpdOwn w q (.slice none 0 0) [] := ⟨none, 0, rfl, Nat.le_refl _, by omega, fun i x h => by simp at h⟩
theorem withI_no {x : Ins} {l : List Int} (h : withOk x l = false) : withI x l = insZ := by unfold withI; rw [h]; rfl
theorem withI_yes {x : Ins} {l : List Int} (h : withOk x l = true) : withI x l = ⟨x.op, fill x.args l⟩ := by unfold withI; rw [h]; rfl

set_option maxHeartbeats 4000000 in
theorem With_any (p q : Blocks) (x : Ins) (l : List Int) (v vl : Value) (w : World) (h : SlR opdR w p v x.args) (hl : SlR intR w q vl l) (hT : Spc w) (hn : x.args.length ≤ 1000) (hz : x.op.size ≤ maxLen) :
    Calls Tryd.prog 61 #[.agg #[.string x.op, v], vl] w fun e w' => (∃ v', e = .returned (.tuple #[.agg #[.string (withI x l).op, v'], .bool (withOk x l)]) ∧ OpdOwn w' (fun b => w.heap.size ≤ b) v' (withI x l).args) ∧ Below w.heap.size w w' := by
  obtain ⟨a, c, rfl, _⟩ := h.opd
  have hlo := hl.old
  obtain ⟨la, lc, rfl, _⟩ := hl.int
  have HLL := Lib.hid (hlo.mono (q := fun k => k < w.heap.size) fun k hk => hk.2)
  have HT := Lib.hid hT
  have HN := Lib.hid hn
  have HZ := Lib.hid hz
  obtain ⟨W, hW⟩ : ∃ W : World, W = (w.alloc (.cells #[.string x.op, .slice a x.args.length c] 39)).alloc (.cells #[.string ⟨#[]⟩, .slice none 0 0] 39) := ⟨_, rfl⟩
  have hbW : Below w.heap.size w W := hW ▸ ((Below.refl _ _).alloc (Nat.le_refl _) _).alloc (by simp) _
  have k2 : Blk W w.heap.size 39 #[.string x.op, .slice a x.args.length c] := hW ▸ (Blk.new w _ _).alloc _
  have k4 : Blk W (w.heap.size + 1) 39 #[.string ⟨#[]⟩, .slice none 0 0] := by
    have := Blk.new (w.alloc (.cells #[.string x.op, .slice a x.args.length c] 39)) 39 #[.string ⟨#[]⟩, .slice none 0 0]
    rw [hW]; simpa using this
  have HBW := Lib.hid hbW
  have HK2 := Lib.hid k2
  have HK4 := Lib.hid k4
  have HMK := Lib.hid (Make_any p x.op _ _ W (h.below hbW) (by omega) (by unfold maxLen at hz; exact hz))
  obtain ⟨a0, a1, _, _⟩ := k2.two
  clear h hl hlo hT hn hz hbW k2 k4
  go_enter Tryd.func61, Tryd.ntmps61
  go_wp2_with fail
  rw [← hW]
  clear hW
  refine HMK.out.mono ?_
  rintro e w1 ⟨v1, rfl, ho, hb⟩
  have HB1 := Lib.hid hb
  have hlt4 : w.heap.size + 1 < w1.heap.size := Nat.lt_of_lt_of_le HK4.out.lt hb.size
  have hlt2 : w.heap.size < w1.heap.size := Nat.lt_of_lt_of_le HK2.out.lt hb.size
  have k2 := HK2.out.below hb HK2.out.lt
  obtain ⟨b0, b1, _, _⟩ := k2.two
  obtain ⟨oa, oc, rfl⟩ := ho.form
  have hown : OpdOwn w1 (fun k => w.heap.size ≤ k ∧ k ≠ w.heap.size + 1 ∧ k ≠ w1.heap.size) (.slice oa x.args.length oc) x.args := ho.opdOwn fun k hk => by
    have h1 := ho.lt k hk
    have h2 := HBW.out.size
    have h3 := HK4.out.lt
    omega
  have hb2 : Below w.heap.size w (w1.alloc (.cells #[.string x.op, .slice oa x.args.length oc] 39)) := (HBW.out.trans (hb.mono HBW.out.size)).alloc (Nat.le_of_lt hlt2) _
  have H0 : Hid (WiH w x.op (w.heap.size + 1) w1.heap.size (.slice oa x.args.length oc) x.args (w1.alloc (.cells #[.string x.op, .slice oa x.args.length oc] 39))) :=
    ⟨hb2, HT.out, (HK4.out.below hb HK4.out.lt).alloc _, Blk.new w1 _ _, hown.below (below_alloc w1 _), Nat.le_succ _, Nat.le_of_lt hlt2⟩
  have HS0 : Hid (SlR intR (w1.alloc (.cells #[.string x.op, .slice oa x.args.length oc] 39)) (fun k => k < w.heap.size) (.slice la l.length lc) l) := HLL.out.keep (Keep.of_below hb2 fun _ hk => hk)
  clear hb ho hown hb2 a0 a1 k2
  go_wp2
  go_loopw [1, 21] (fun nv i wr => ∃ k : Nat, k ≤ x.args.length ∧ i = .int .i64 k ∧ WiH w x.op (w.heap.size + 1) w1.heap.size (.slice oa x.args.length oc) (fillTo x.args l k) wr ∧ SlR intR wr (fun k => k < w.heap.size) nv (l.drop (numsOf (x.args.take k)).length) ∧ (numsOf (x.args.take k)).length ≤ l.length) (fun _ i _ => x.args.length - (intOf i).toNat)
  case atStart => exact ⟨0, Nat.zero_le _, rfl, by rw [fillTo_zero]; exact H0.out, by simpa [numsOf] using HS0.out, by simp [numsOf]⟩
  case round =>
    obtain ⟨k, hk, rfl, hwi, hsl, hm⟩ := hrel
    have H := Lib.hid hwi
    have HM := Lib.hid hm
    obtain ⟨p0, p1, _, _⟩ := hwi.out.two
    obtain ⟨r0, r1, s0, s1⟩ := hwi.res.two
    have hlt6 : w1.heap.size < wr.heap.size := hwi.out.lt
    clear b0 b1
    by_cases hlt : k < x.args.length
    · have hat := fillTo_at x.args l k hlt
      obtain ⟨a', c', e', _, _, g⟩ := hwi.own
      injection e' with e1' e2' e3'
      clear e2'
      subst e1' e3'
      obtain ⟨b, o, rfl, hq, hb, c0, c1, c2, fr⟩ := g k _ hat
      have f2 := fr (o + k * 3 + 2)
      have HNO := Lib.hid (fun hn => fillTo_no (l := l) (k := k) hlt hn)
      have HYES := Lib.hid (fun (r : List Int) y hn hr => fillTo_yes (l := l) (r := r) (y := y) (k := k) hlt hn hr)
      have HNN := Lib.hid (fun hn => nums_step_no (k := k) hlt hn)
      have HNY := Lib.hid (fun hn => nums_step_yes (k := k) hlt hn)
      have HLT := Lib.hid (fun hn => nums_lt (k := k) hlt hn)
      have HSET := Lib.hid (fun wr (hw : WiH w x.op (w.heap.size + 1) w1.heap.size (.slice (some ⟨b, o, none⟩) x.args.length oc) (fillTo x.args l k) wr) m => hw.setN (m := m) hat hq)
      have HQ := Lib.hid hq
      clear g hat hwi hm fr hq
      have hma := fun wz => marked_any x.args[k] wz
      generalize (numsOf (x.args.take k)).length = m at *
      generalize x.args[k] = y at *
      cases hnu : hasNum y
      · rw [hnu] at hma
        have HMA := Lib.hid hma
        have HNU := Lib.hid hnu
        have HSL := Lib.hid hsl
        clear hma hnu hsl
        go_wp2_with (go_at_call 101; refine (HMA.out _).mono ?_; rintro e w2 ⟨rfl, hb2⟩; have H2 := Lib.hid (H.out.next hb2); have HS2 := Lib.hid (HSL.out.below hb2); clear hb2)
        go_roundw
        case rel => exact ⟨k + 1, by omega, by go_num, by rw [HNO.out HNU.out]; exact H2.out, by rw [HNN.out HNU.out]; exact HS2.out, by rw [HNN.out HNU.out]; exact HM.out⟩
        case measure => simp [intOf]; omega
      · rw [hnu] at hma
        have HMA := Lib.hid hma
        have HNU := Lib.hid hnu
        clear hma hnu
        cases hr : l.drop m with
        | nil =>
          rw [hr] at hsl
          obtain ⟨na, nc, rfl, _⟩ := hsl.int
          have hv0 : l.length - m = 0 := by rw [← List.length_drop, hr]; rfl
          have HV : Hid (withOk x l = false) := withOk_len (by have := HLT.out HNU.out; omega)
          have HVI : Hid (withI x l = insZ) := withI_no HV.out
          clear hv0
          clear hsl hr
          go_wp2_with (go_at_call 101; refine (HMA.out _).mono ?_; rintro e w2 ⟨rfl, hb2⟩; have H2 := Lib.hid (H.out.next hb2); obtain ⟨t0, t1, u0, u1⟩ := H2.out.res.two; clear hb2)
          have hk3 := (H2.out.res.set 0 (.string ⟨#[]⟩)).set 1 (.slice none 0 0)
          refine bodyPost_ret (results_row_tmp rfl _ _ (w.heap.size + 1) 39 #[.string ⟨#[]⟩, .slice none 0 0] (0, 0) _ rfl hk3 Tryd.underlying39 rfl (by kernel_rfl)) rfl ?_
          rw [HV.out, HVI.out]
          exact ⟨⟨_, rfl, opdOwn_nil _ _⟩, (H2.out.below.setCell (p := ⟨w.heap.size + 1, 0, none⟩) (Nat.le_succ _) _).setCell (p := ⟨w.heap.size + 1, 1, none⟩) (Nat.le_succ _) _⟩
        | cons z r =>
          rw [hr] at hsl
          obtain ⟨na, nc, rfl, hnc, hnm, g2⟩ := hsl.int
          obtain ⟨bn, on, rfl, hbn, e0⟩ := g2 0 z rfl
          simp only [Nat.add_zero] at e0
          have HSN := Lib.hid (hsl.tail (s := 1) rfl)
          have HYS := Lib.hid (HYES.out r z HNU.out hr)
          have HM1 : Hid (l.drop (m + 1) = r) := by
            show l.drop (m + 1) = r
            rw [← List.drop_drop, hr]; rfl
          have HM2 : Hid (m + 1 ≤ l.length) := by
            show m + 1 ≤ l.length
            have : (l.drop m).length = r.length + 1 := by rw [hr]; rfl
            rw [List.length_drop] at this; omega
          clear hsl hr g2
          have hb6 : b ≠ w1.heap.size := HQ.out.2.2
          go_wp2_with (go_at_call 101; refine (HMA.out _).mono ?_; rintro e w2 ⟨rfl, hb2⟩; have H2 := Lib.hid (H.out.next hb2); have HS2 := Lib.hid (HSN.out.below hb2); obtain ⟨p0, p1, _, _⟩ := H2.out.out.two; have e0 : w2.cell? ⟨bn, on, none⟩ = some (.int .i64 z) := (hb2.cell (p := ⟨bn, on, none⟩) (World.block_lt_of_cell? _ _ e0)).trans e0; have c2 : w2.cell? ⟨b, o + k * 3 + 2, none⟩ = some (.int .i64 y.n) := (hb2.cell (p := ⟨b, o + k * 3 + 2, none⟩) hb).trans c2; have f2 : w2.frozen? ⟨b, o + k * 3 + 2, none⟩ = false := (hb2.frozen (p := ⟨b, o + k * 3 + 2, none⟩) hb).trans f2; clear hb2)
          go_region
          go_wp2
          go_roundw
          case rel => exact ⟨k + 1, by omega, by go_num, by rw [HYS.out]; exact (HSET.out _ H2.out z).drew, by rw [HNY.out HNU.out, HM1.out]; exact (HS2.out.keep (Keep.setCell (fun j hj => by have := HQ.out.1; show j ≠ b; omega) _)).drew, by rw [HNY.out HNU.out]; exact HM2.out⟩
          case measure => simp [intOf]; omega
    · obtain rfl : k = x.args.length := by omega
      have HO := Lib.hid (show OpdOwn wr _ _ (fill x.args l) by rw [← fillTo_all]; exact hwi.own)
      rw [List.take_length] at hsl hm
      cases hr : l.drop (numsOf x.args).length with
      | cons z r =>
        rw [hr] at hsl
        obtain ⟨na, nc, rfl, _⟩ := hsl.int
        have hv0 : l.length - (numsOf x.args).length = r.length + 1 := by rw [← List.length_drop, hr]; rfl
        have HV : Hid (withOk x l = false) := withOk_len (by omega)
        have HVI : Hid (withI x l = insZ) := withI_no HV.out
        clear hv0 hr hsl hwi hm HM
        go_wp2
        have hk3 := (H.out.res.set 0 (.string ⟨#[]⟩)).set 1 (.slice none 0 0)
        refine bodyPost_ret (results_row_tmp rfl _ _ (w.heap.size + 1) 39 #[.string ⟨#[]⟩, .slice none 0 0] (0, 0) _ rfl hk3 Tryd.underlying39 rfl (by kernel_rfl)) rfl ?_
        rw [HV.out, HVI.out]
        exact ⟨⟨_, rfl, opdOwn_nil _ _⟩, (H.out.below.setCell (p := ⟨w.heap.size + 1, 0, none⟩) (Nat.le_succ _) _).setCell (p := ⟨w.heap.size + 1, 1, none⟩) (Nat.le_succ _) _⟩
      | nil =>
        rw [hr] at hsl
        obtain ⟨na, nc, rfl, _⟩ := hsl.int
        have hv0 : l.length - (numsOf x.args).length = 0 := by rw [← List.length_drop, hr]; rfl
        have hvc := withOk_check (x := x) (l := l) (by omega)
        have hch := check_any _ ⟨x.op, fill x.args l⟩ _ wr HO.out.slR (HT.out.below H.out.below) HZ.out
        cases hc : (check07 ⟨x.op, fill x.args l⟩ == 0)
        · rw [hc] at hvc
          have hne : (check07 ⟨x.op, fill x.args l⟩ != 0) = true := by simpa [bne] using hc
          have HV := Lib.hid hvc
          have HVI : Hid (withI x l = insZ) := withI_no HV.out
          have HCH := Lib.hid hch
          clear hv0 hr hsl hwi hm HM hvc hch
          go_wp2_with (go_at_call 39; refine HCH.out.mono ?_; rintro e w2 ⟨rfl, hb2⟩; have H2 := Lib.hid (H.out.next hb2); obtain ⟨t0, t1, u0, u1⟩ := H2.out.res.two; clear hb2)
          have hk3 := (H2.out.res.set 0 (.string ⟨#[]⟩)).set 1 (.slice none 0 0)
          refine bodyPost_ret (results_row_tmp rfl _ _ (w.heap.size + 1) 39 #[.string ⟨#[]⟩, .slice none 0 0] (0, 0) _ rfl hk3 Tryd.underlying39 rfl (by kernel_rfl)) rfl ?_
          rw [HV.out, HVI.out]
          exact ⟨⟨_, rfl, opdOwn_nil _ _⟩, (H2.out.below.setCell (p := ⟨w.heap.size + 1, 0, none⟩) (Nat.le_succ _) _).setCell (p := ⟨w.heap.size + 1, 1, none⟩) (Nat.le_succ _) _⟩
        · rw [hc] at hvc
          have hc0 : check07 ⟨x.op, fill x.args l⟩ = 0 := by simpa using hc
          rw [hc0] at hch
          have HV := Lib.hid hvc
          have HVI := Lib.hid (withI_yes HV.out)
          have HCH := Lib.hid hch
          clear hv0 hr hsl hwi hm HM hvc hch hc hc0
          go_wp2_with (go_at_call 39; refine HCH.out.mono ?_; rintro e w2 ⟨rfl, hb2⟩; have H2 := Lib.hid (H.out.next hb2); have HO2 := Lib.hid (HO.out.below hb2); obtain ⟨t0, t1, u0, u1⟩ := H2.out.res.two; obtain ⟨p0, p1, _, _⟩ := H2.out.out.two; clear hb2)
          have hk3 := (H2.out.res.set 0 (.string x.op)).set 1 (.slice oa x.args.length oc)
          refine bodyPost_ret (results_row_tmp rfl _ _ (w.heap.size + 1) 39 #[.string x.op, .slice oa x.args.length oc] (0, 0) _ rfl hk3 Tryd.underlying39 rfl (by kernel_rfl)) rfl ?_
          rw [HV.out, HVI.out]
          exact ⟨⟨_, rfl, ((HO2.out.keep (Keep.setCell (fun k hk => hk.2.1) _)).keep (Keep.setCell (fun k hk => hk.2.1) _)).mono fun _ hk => hk.1⟩, (H2.out.below.setCell (p := ⟨w.heap.size + 1, 0, none⟩) (Nat.le_succ _) _).setCell (p := ⟨w.heap.size + 1, 1, none⟩) (Nat.le_succ _) _⟩
end Go.Proofs.YtkkjoghfdmmpaaaDoor
