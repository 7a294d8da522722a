/-
  The plain law of FlowKinds: the effects of an instruction are the reference's. Conditions: none.
-/
import Derived.Test.YtmpmciccgempeaaGreatDoorF5
import Derived.Test.YtmpmciccgempeaaGreatDoorBE3
import Derived.Test.YtmpmciccgempeaaGreatDoorBW1
import Derived.Test.YtmpmciccgempeaaGreatDoorBA17
import Derived.Test.YtmpmciccgempeaaGreatDoorBQ1
import Derived.Test.YtmpmciccgempeaaGreatDoorBB8
import Derived.Test.YtmpmciccgempeaaGreatDoorBK1
import Derived.Test.YtmpmciccgempeaaGreatDoorBM1
import Derived.Test.YtmpmciccgempeaaGreatDoorBA14
import Derived.Test.YtmpmciccgempeaaGreatDoorBA12
import Derived.Test.YtmpmciccgempeaaGreatDoorBA6
import Derived.Test.YtmpmciccgempeaaGreatDoorBA5
import Derived.Test.YtmpmciccgempeaaGreatDoorBB1
import Derived.Test.YtmpmciccgempeaaGreatDoorBA1
import Derived.Test.YtmpmciccgempeaaGreatDoorChecked
import Derived.Test.YtmpmciccgempeaaGreatDoorBA4
import Derived.Test.YtmpmciccgempeaaGreatDoorShelf
import Derived.Test.YtmpmciccgempeaaGreatDoorBA2
import Derived.Test.YtmpmciccgempeaaGreatDoorBE1
import Derived.Test.YtmpmciccgempeaaGreatDoorBA3
import Derived.Test.YtmpmciccgempeaaGreatDoorBB2
import Derived.Test.YtmpmciccgempeaaGreatDoorBA9
import Derived.Test.YtmpmciccgempeaaGreatDoorBE2
import Derived.Test.YtmpmciccgempeaaGreatDoorBA7
import Derived.Test.YtmpmciccgempeaaGreatDoorBA8
import Derived.Test.YtmpmciccgempeaaGreatDoorBT1
import Derived.Test.YtmpmciccgempeaaGreatDoorBB3
import Derived.Test.YtmpmciccgempeaaGreatDoorBA11
import Derived.Test.YtmpmciccgempeaaGreatDoorBA10
import Derived.Test.YtmpmciccgempeaaGreatDoorBB4
import Derived.Test.YtmpmciccgempeaaGreatDoorBB6
import Derived.Test.YtmpmciccgempeaaGreatDoorBB5
import Derived.Test.YtmpmciccgempeaaGreatDoorBA13
import Derived.Test.YtmpmciccgempeaaGreatDoorBB7
import Derived.Test.YtmpmciccgempeaaGreatDoorBA16
import Derived.Test.YtmpmciccgempeaaGreatDoorBA15
import Derived.Test.YtmpmciccgempeaaGreatDoorBV1
import Derived.Test.YtmpmciccgempeaaGreatDoorShelfT
namespace Go.Proofs.YtmpmciccgempeaaGreatDoor
open Go.RowKit Go.Shelf Go.Sort

def chkT (p : Int) (x : Nat) : Bool := match (atF p x).1 with
  | some e =>
    let an := fun (k : Int) => e.args.any (fun o => o.kind == k)
    (!(e.iop == [74, 80]) || (an 4 == !(an 6))) && ((e.args.all fun o => decide (0 ≤ o.n) && decide (o.n ≤ 65535)) && (!(decide (kndL e.iop (an 4) = 1) || decide (kndL e.iop (an 4) = 2)) || (an 10 || an 6)))
  | none => true
theorem ckt : ∀ p : Fin 7, ∀ x : Fin 256, chkT p.val x.val = true := by decide +kernel
theorem ofK_kr : ∀ {c l : List Opd}, c.map kr = l.map kr → ∀ k, (ofK c k).isSome = l.any (fun o => o.kind == k)
  | [], [], _, _ => rfl
  | [], _ :: _, h, _ => by cases h
  | _ :: _, [], h, _ => by cases h
  | a :: c, b :: l, h, k => by
    rw [List.map_cons, List.map_cons] at h
    injection h with h1 h2
    unfold kr at h1
    injection h1 with h3 h4
    have ih := ofK_kr h2 k
    unfold ofK at ih ⊢
    rw [List.find?_cons, List.any_cons, ← h3]
    cases (a.kind == k)
    · rw [Bool.false_or]; exact ih
    · rfl
/-- a legal instruction's operands -/
structure LegP (x : Ins) (e : aL) : Prop where
  op : x.op.toList = e.iop
  knd : ∀ k, (ofK (aE x).args k).isSome = e.args.any (fun o => o.kind == k)
  jp : e.iop = [74, 80] → (ofK (aE x).args 4).isSome = !(ofK (aE x).args 6).isSome
  too : kndL e.iop (ofK (aE x).args 4).isSome = 1 ∨ kndL e.iop (ofK (aE x).args 4).isSome = 2 → (ofK (aE x).args 10).isSome = true ∨ (ofK (aE x).args 6).isSome = true
  num : ∀ o ∈ (aE x).args, -128 ≤ o.n ∧ o.n ≤ 65535
  imm : ∀ o ∈ (aE x).args, o.kind = 6 → 0 ≤ o.n
theorem leg_some {x : Ins} (h : tI x = true) : ∃ e, cQ x = (some e, 0) := by
  have h0 : (cQ x).2 = 0 := eq_of_beq h
  have h1 := findR_code.1 h0
  cases hR : cQ x with
  | mk o k =>
    rw [hR] at h0 h1
    cases o with
    | none => cases h1
    | some e => exact ⟨e, by dsimp only at h0; rw [h0]⟩
theorem leg_parts {x : Ins} (h : tI x = true) : ∃ e, LegP x e := by
  obtain ⟨e, hR⟩ := leg_some h
  obtain ⟨p, k, F⟩ := fnd11 hR
  have hc := ckt ⟨p, F.hp⟩ ⟨k, F.hk⟩
  unfold chkT at hc
  dsimp only at hc
  rw [F.at'] at hc
  dsimp only at hc
  obtain ⟨c1, hc⟩ := Bool.and_eq_true_iff.1 hc
  obtain ⟨c2, c3⟩ := Bool.and_eq_true_iff.1 hc
  have hk := fun k => ofK_kr F.fil.k k
  have hel := F.fil.el
  have h1 := F.fil.okd
  have h2 := F.fil.okn
  have hv := F.ok.v
  have hlen := F.fil.len
  have hnum : ∀ o ∈ (aE x).args, (-128 ≤ o.n ∧ o.n ≤ 65535) ∧ (o.kind = 6 → 0 ≤ o.n) := by
    intro o ho
    obtain ⟨j, hj, rfl⟩ := List.mem_iff_getElem.1 ho
    have hj2 : j < e.args.length := by omega
    have hj3 := hel j hj2
    rw [List.getElem?_eq_getElem hj] at hj3
    injection hj3 with hj3
    have hfix := List.all_eq_true.1 c2 e.args[j] (List.getElem_mem hj2)
    obtain ⟨f1, f2⟩ := Bool.and_eq_true_iff.1 hfix
    have f1 := of_decide_eq_true f1
    have f2 := of_decide_eq_true f2
    rw [hj3]
    unfold UZ at hv
    by_cases hD : Dof e.ex e.args = some j
    · rw [if_pos hD]
      rw [hD] at h1 hv
      have := okN_some rfl h1
      refine ⟨⟨by dsimp only; omega, by dsimp only; omega⟩, fun hk6 => ?_⟩
      dsimp only at hk6 hv
      obtain ⟨v1, _⟩ := Bool.and_eq_true_iff.1 hv
      obtain ⟨_, v1⟩ := Bool.and_eq_true_iff.1 v1
      obtain ⟨_, v1⟩ := Bool.and_eq_true_iff.1 v1
      have v1 := eq_of_beq v1
      rw [WM hj2] at v1
      omega
    · rw [if_neg hD]
      by_cases hJ : Jof e.ex e.args = some j
      · rw [if_pos hJ]
        rw [hJ] at h2 hv
        have hlo := okN_some rfl h2
        have h3 : -128 ≤ loF e.ex := by unfold loF; split <;> omega
        have h4 : hiF e.ex ≤ 65535 := by
          unfold hiF
          split
          · omega
          · split <;> omega
        refine ⟨⟨by dsimp only; omega, by dsimp only; omega⟩, fun hk6 => ?_⟩
        dsimp only at hk6 hv
        obtain ⟨_, hv⟩ := Bool.and_eq_true_iff.1 hv
        obtain ⟨v1, _⟩ := Bool.and_eq_true_iff.1 hv
        obtain ⟨_, v1⟩ := Bool.and_eq_true_iff.1 v1
        rw [WM hj2, hk6] at v1
        have v1 : decide (0 ≤ loF e.ex) = true := v1
        have := of_decide_eq_true v1
        dsimp only
        omega
      · rw [if_neg hJ]
        exact ⟨⟨by omega, by omega⟩, fun _ => f1⟩
  refine ⟨e, ?_, hk, ?_, ?_, fun o ho => (hnum o ho).1, fun o ho => (hnum o ho).2⟩
  · rw [F.iop]; exact dK _
  · intro hjp
    rw [hk, hk]
    rw [hjp] at c1
    exact eq_of_beq c1
  · rw [hk, hk, hk]
    intro hto
    have : (decide (kndL e.iop (e.args.any fun o => o.kind == 4) = 1) || decide (kndL e.iop (e.args.any fun o => o.kind == 4) = 2)) = true := by
      rw [Bool.or_eq_true, decide_eq_true_iff, decide_eq_true_iff]; exact hto
    rw [this, Bool.not_true, Bool.false_or] at c3
    exact Bool.or_eq_true_iff.1 c3
theorem legC_yes {x : Ins} (h : tI x = true) : legC x = aE x := if_pos h
theorem legC_no {x : Ins} (h : tI x = false) : legC x = ⟨⟨#[]⟩, []⟩ := if_neg (by rw [h]; decide)
theorem legB_code {x : Ins} : tI x = ((cQ x).2 == 0) := rfl
theorem emp_list : (⟨#[]⟩ : ByteArray).toList = [] := dK []
theorem flow_kind (x : Ins) : KindF x = KindR x := by
  unfold KindF KindR kndF argR
  cases hl : tI x
  · have hc : ¬ (cQ x).2 = 0 := fun e => by rw [legB_code, e] at hl; cases hl
    rw [legC_no hl, if_neg hc, emp_list]
    rfl
  · have hc : (cQ x).2 = 0 := eq_of_beq hl
    obtain ⟨e, L⟩ := leg_parts hl
    rw [legC_yes hl, if_pos hc, show (aE x).op = x.op from rfl, L.op]
    by_cases hj : e.iop = [74, 80]
    · rw [L.jp hj, hj]
      cases (ofK (aE x).args 6).isSome <;> rfl
    · unfold kndL kndR
      have hb : (e.iop == [74, 80]) = false := by rw [beq_eq_false_iff_ne]; exact hj
      rw [hb]
      rfl
theorem flow_som (x : Ins) : SomF x = SomR x := by
  unfold SomF SomR argR
  rw [← legB_code]
  cases hl : tI x
  · rw [legC_no hl, emp_list]
    rfl
  · rw [legC_yes hl, Bool.true_and]
    rfl
theorem legC_n (x : Ins) : ∀ o ∈ (legC x).args, -128 ≤ o.n ∧ o.n ≤ 65535 := by
  cases hl : tI x
  · rw [legC_no hl]; intro o ho; cases ho
  · obtain ⟨e, L⟩ := leg_parts hl
    rw [legC_yes hl]; exact L.num
theorem flow_tgt (addr : Int) (x : Ins) : (TgtF addr x).2 = decide (0 ≤ TgtR addr x) ∧ (TgtF addr x).1 = max (TgtR addr x) 0 := by
  unfold TgtF TgtR
  rw [flow_kind x]
  simp only [fitsB_iff2]
  by_cases hc : (0 ≤ addr ∧ addr ≤ 65535) ∧ (KindR x = 1 ∨ KindR x = 2)
  · rw [if_pos hc, if_pos hc]
    have hkk := hc.2
    rw [← flow_kind x] at hkk
    unfold tgtK tgtR argR
    cases h10 : ofK (legC x).args 10 with
    | some o =>
      dsimp only
      have := legC_n x o (ofK_mem h10)
      have h0 : 0 ≤ (addr + 2 + o.n + 65536) % 65536 := Int.emod_nonneg _ (by decide)
      rw [Int.max_eq_left h0]
      exact ⟨(decide_eq_true h0).symm, by omega⟩
    | none =>
      dsimp only
      cases hl : tI x
      · unfold KindF kndF at hkk
        rw [legC_no hl, emp_list] at hkk
        rcases hkk with hkk | hkk <;> cases hkk
      · obtain ⟨e, L⟩ := leg_parts hl
        unfold KindF kndF at hkk
        rw [legC_yes hl] at h10 hkk ⊢
        rw [show (aE x).op = x.op from rfl, L.op] at hkk
        have h6 := L.too hkk
        rw [h10] at h6
        rcases h6 with h6 | h6
        · cases h6
        · cases h6' : ofK (aE x).args 6 with
          | none => rw [h6'] at h6; cases h6
          | some o =>
            dsimp only [Option.getD_some, Option.isSome_some]
            have hk6 : o.kind = 6 := by
              have := List.find?_some h6'
              exact eq_of_beq this
            have h0 := L.imm o (ofK_mem h6') hk6
            rw [Int.max_eq_left h0]
            exact ⟨(decide_eq_true h0).symm, rfl⟩
  · rw [if_neg hc, if_neg hc]
    exact ⟨rfl, rfl⟩
end Go.Proofs.YtmpmciccgempeaaGreatDoor
