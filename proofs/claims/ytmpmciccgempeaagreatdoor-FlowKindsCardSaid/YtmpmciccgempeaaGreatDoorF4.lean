/-
  breadboardref14.arg, Kind, Sometimes, Target. Conditions: a short instruction.
-/
import Derived.Test.YtmpmciccgempeaaGreatDoorF3
import Derived.Test.YtmpmciccgempeaaGreatDoorBB8
import Derived.Test.YtmpmciccgempeaaGreatDoorBK1
import Derived.Test.YtmpmciccgempeaaGreatDoorBM1
import Derived.Test.YtmpmciccgempeaaGreatDoorBQ1
import Derived.Test.YtmpmciccgempeaaGreatDoorBA17
import Derived.Test.YtmpmciccgempeaaGreatDoorBE3
import Derived.Test.YtmpmciccgempeaaGreatDoorBA14
import Derived.Test.YtmpmciccgempeaaGreatDoorBA12
import Derived.Test.YtmpmciccgempeaaGreatDoorBA6
import Derived.Test.YtmpmciccgempeaaGreatDoorBA5
import Derived.Test.YtmpmciccgempeaaGreatDoorBB1
import Derived.Test.YtmpmciccgempeaaGreatDoorBA1
import Derived.Test.YtmpmciccgempeaaGreatDoorChecked
import Derived.Test.YtmpmciccgempeaaGreatDoorBA4
import Derived.Test.YtmpmciccgempeaaGreatDoorShelf
import Derived.Test.YtmpmciccgempeaaGreatDoorBA2
import Derived.Test.YtmpmciccgempeaaGreatDoorBE1
import Derived.Test.YtmpmciccgempeaaGreatDoorBA3
import Derived.Test.YtmpmciccgempeaaGreatDoorBB2
import Derived.Test.YtmpmciccgempeaaGreatDoorBA9
import Derived.Test.YtmpmciccgempeaaGreatDoorBE2
import Derived.Test.YtmpmciccgempeaaGreatDoorBA7
import Derived.Test.YtmpmciccgempeaaGreatDoorBA8
import Derived.Test.YtmpmciccgempeaaGreatDoorBT1
import Derived.Test.YtmpmciccgempeaaGreatDoorBB3
import Derived.Test.YtmpmciccgempeaaGreatDoorBA11
import Derived.Test.YtmpmciccgempeaaGreatDoorBA10
import Derived.Test.YtmpmciccgempeaaGreatDoorBB4
import Derived.Test.YtmpmciccgempeaaGreatDoorBB6
import Derived.Test.YtmpmciccgempeaaGreatDoorBB5
import Derived.Test.YtmpmciccgempeaaGreatDoorBA13
import Derived.Test.YtmpmciccgempeaaGreatDoorBB7
import Derived.Test.YtmpmciccgempeaaGreatDoorBA16
import Derived.Test.YtmpmciccgempeaaGreatDoorBA15
namespace Go.Proofs.YtmpmciccgempeaaGreatDoor
open Go.RowKit Go.Shelf Go.Sort

/-- the reference's code alone -/
theorem code14_any (x : Ins) (m : CV x) (p : aB) (v : Value) (w : World) (h : SlR aM w p v x.args) :
    Calls Tryz.prog 48 #[.agg #[.string x.op, v]] w fun e w' => (∃ a b c da dn dc s f, e = .returned (.tuple #[.agg #[.int .i64 a, .int .u8 b, .string c, .slice da dn dc, .string s, .bool f], .int .i64 (cQ x).2])) ∧ Below w.heap.size w w' :=
  (Find9_any p x v w h (by have := m.n; omega) m.f).mono fun e w' h => by
    generalize cQ x = r at h ⊢
    obtain ⟨o, k⟩ := r
    obtain ⟨h, hb⟩ := h
    cases o with
    | none => exact ⟨⟨_, _, _, _, _, _, _, _, h⟩, hb⟩
    | some x =>
      obtain ⟨v, q, h, a, c, hv, _⟩ := h
      subst hv
      exact ⟨⟨_, _, _, _, _, _, _, _, h⟩, hb⟩
/-- the reference's operand of a kind -/
def argR (x : Ins) (k : Int) : Option Opd := ofK (legC x).args k
theorem argR_no {x : Ins} {k : Int} (h : ¬ (cQ x).2 = 0) : argR x k = none := by
  unfold argR legC
  have hb : tI x = false := by unfold tI; rw [beq_eq_false_iff_ne]; exact h
  rw [if_neg (by rw [hb]; decide)]
  rfl
theorem argR_yes {x : Ins} {k : Int} (h : (cQ x).2 = 0) : argR x k = ofK (aE x).args k := by
  unfold argR legC
  have hb : tI x = true := by unfold tI; rw [h]; rfl
  rw [if_pos hb]
theorem fldI (v1 v2 : Value) (W : World) : (Instr.field 24 (.agg #[v1, v2]) 1).run Tryz.prog W = .ok v2 W := by
  simp [Instr.field, asAgg, go_sem]
set_option maxHeartbeats 8000000 in
set_option maxRecDepth 100000 in
theorem arg14_any (x : Ins) (m : CV x) (k : Int) (p : aB) (v : Value) (w : World) (h : SlR aM w p v x.args) :
    Calls Tryz.prog 69 #[.agg #[.string x.op, v], .int .i64 k] w fun e w' => e = .returned (OfV (argR x k)) ∧ Below w.heap.size w w' := by
  have HCD := aA (fun W (hb : RowKit.Below w.heap.size w W) => code14_any x m p v W (h.below hb))
  have HOF := aA (fun W (hb : RowKit.Below w.heap.size w W) => jS p x v W (h.below hb) (by have := m.n; omega) m.f)
  have HNO := aA (argR_no (x := x) (k := k))
  have HYE := aA (argR_yes (x := x) (k := k))
  have hcl : (aE x).args.length ≤ 1000000 := by have := mB x; have := m.n; omega
  obtain ⟨a, c, rfl⟩ : ∃ a c, v = .slice a x.args.length c := by obtain ⟨a, c, e, _⟩ := h; exact ⟨a, c, e⟩
  have HF0 := aA (((Fr.start w).new 24 #[.string x.op, .slice a x.args.length c]).new' 90 #[.int .i64 0, .int .i64 0, .int .i64 0] (World.size_alloc _ _))
  generalize argR x k = R at *
  generalize (cQ x).2 = cd at *
  generalize (aE x).args = l at *
  obtain ⟨W0, hW0⟩ : ∃ W : World, W = (w.alloc (.cells #[.string x.op, .slice a x.args.length c] 24)).alloc (.cells #[.int .i64 0, .int .i64 0, .int .i64 0] 90) := ⟨_, rfl⟩
  rw [← hW0] at HF0
  clear h m
  have hfd := fldI
  go_enter Tryz.func69, Tryz.ntmps69
  go_upto_region 1 with fail
  rw [← hW0]
  clear hW0
  obtain ⟨e0, e1⟩ := (HF0.out.blk 1 rfl).pair
  go_upto_region 3 with (first
    | (go_at_call 48; (with_reducible refine (HCD.out _ HF0.out.below).mono ?_); rintro e w1 ⟨⟨z0, z1, z2, z3, z4, z5, z6, z7, rfl⟩, hb⟩; have HF1 := aA ((HF0.out.next hb).alloc (.cells #[.int .i64 z0, .int .u8 z1, .string z2, .slice z3 z4 z5, .string z6, .bool z7] 72)); clear hb e0 e1; obtain ⟨e0, e1⟩ := (HF1.out.blk 1 rfl).pair)
    | (go_at_call 31; (with_reducible refine (HOF.out _ HF1.out.below).mono ?_); rintro e w2 ⟨v2, rfl, ho, hb⟩; obtain ⟨va, vc, rfl⟩ := ho.form; have HS := aA (ho.slR.mono (q := fun _ => True) (fun _ _ => trivial)); have HF2 := aA (HF1.out.next hb); clear hb ho e0 e1))
  have hg : w.heap.size + 1 < w2.heap.size := (HF2.out.blk 0 rfl).lt
  obtain ⟨q0, q1, q2, y0, y1, y2⟩ := (HF2.out.blk 0 rfl).three
  by_cases hcd : cd = 0
  · have hR := HYE.out hcd
    subst hcd
    clear HNO HYE
    go_wp2
    go_loopw [9] (fun i wr => ∃ j : Nat, j ≤ l.length ∧ i = .int .i64 j ∧ R = ofK (l.drop j) k ∧ wr = w2) (fun i _ => l.length - (intOf i).toNat)
    case atStart => exact ⟨0, Nat.zero_le _, rfl, hR, rfl⟩
    case round =>
      obtain ⟨j, hj, rfl, ht, rfl⟩ := hrel
      have HT := aA ht
      clear ht hR
      by_cases hlt : j < l.length
      · obtain ⟨a2, c2, e2, _, _, hg2⟩ := HS.out.opd
        injection e2 with e2 e3 e4
        clear e3
        subst e2 e4
        obtain ⟨b1, o1, rfl, _, d0, d1, d2⟩ := hg2 j l[j] (List.getElem?_eq_getElem hlt)
        have HD : Hid (ofK (l.drop j) k = if (l[j].kind == k) = true then some l[j] else ofK (l.drop (j + 1)) k) := aA (by
          rw [List.drop_eq_getElem_cons hlt]
          unfold ofK
          rw [List.find?_cons]
          cases (l[j].kind == k) <;> rfl)
        clear hg2
        generalize l[j] = x at *
        obtain ⟨x1, x2, x3⟩ := x
        dsimp only at *
        by_cases hvx : x1 = k
        · have hR : R = some ⟨x1, x2, x3⟩ := by rw [HT.out, HD.out, if_pos (by rw [hvx]; exact beq_self_eq_true k)]
          subst hR
          subst hvx
          go_wp2
          have HF3 := aA (HF2.out.set3 (by omega) (fun y hy => by simp at hy; rcases hy with rfl; (show _ ≠ _; dsimp only; omega)) (.int .i64 x1) (.int .i64 x2) (.int .i64 x3))
          exact bodyPost_ret (aH rfl _ _ (w.heap.size + 1) 90 #[.int .i64 x1, .int .i64 x2, .int .i64 x3] (0, 0) _ rfl (HF3.out.blk 0 rfl) Tryz.underlying90 rfl (by kernel_rfl)) rfl ⟨rfl, HF3.out.below⟩
        · have hR : R = ofK (l.drop (j + 1)) k := by rw [HT.out, HD.out, if_neg (fun e => hvx (eq_of_beq e))]
          go_wp2
          go_roundw
          case rel => exact ⟨j + 1, by omega, by go_num, hR, trivial⟩
          case measure => simp [intOf]; omega
      · have hR : R = none := by rw [HT.out, List.drop_of_length_le (by omega)]; rfl
        subst hR
        go_wp2
        have HF3 := aA (HF2.out.set3 (by omega) (fun y hy => by simp at hy; rcases hy with rfl; (show _ ≠ _; dsimp only; omega)) (.int .i64 0) (.int .i64 0) (.int .i64 0))
        exact bodyPost_ret (aH rfl _ _ (w.heap.size + 1) 90 #[.int .i64 0, .int .i64 0, .int .i64 0] (0, 0) _ rfl (HF3.out.blk 0 rfl) Tryz.underlying90 rfl (by kernel_rfl)) rfl ⟨rfl, HF3.out.below⟩
  · have hR := HNO.out hcd
    subst hR
    clear HNO HYE
    go_wp2
    go_loopw [9] (fun i wr => i = .int .i64 0 ∧ wr = w2) (fun i _ => 0)
    case atStart => exact ⟨rfl, rfl⟩
    case round =>
      obtain ⟨rfl, rfl⟩ := hrel
      by_cases hlt : (0 : Int) < (l.length : Int)
      all_goals
        go_wp2
        have HF3 := aA (HF2.out.set3 (by omega) (fun y hy => by simp at hy; rcases hy with rfl; (show _ ≠ _; dsimp only; omega)) (.int .i64 0) (.int .i64 0) (.int .i64 0))
        exact bodyPost_ret (aH rfl _ _ (w.heap.size + 1) 90 #[.int .i64 0, .int .i64 0, .int .i64 0] (0, 0) _ rfl (HF3.out.blk 0 rfl) Tryz.underlying90 rfl (by kernel_rfl)) rfl ⟨rfl, HF3.out.below⟩
end Go.Proofs.YtmpmciccgempeaaGreatDoor
