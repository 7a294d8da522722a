/-
  breadboardref11.All. Conditions: short instructions, twelve at most.
-/
import Derived.Test.YtjmekllgnhkodaaGreatDoorQL
import Derived.Test.YtjmekllgnhkodaaGreatDoorPB
namespace Go.Proofs.YtjmekllgnhkodaaGreatDoor
open Go.RowKit Go.Shelf Go.Sort

/-- the first instruction that has no encoding -/
def stopE : List Ins → Nat → Option (Nat × Int)
  | [], _ => none
  | x :: r, k => match (encR x).1 with
    | none => some (k, (encR x).2)
    | some _ => stopE r (k + 1)
def encB (x : Ins) : List UInt8 := (encR x).1.getD []
theorem encB_len (x : Ins) : (encB x).length ≤ 100 := by
  unfold encB
  cases hR : findR x with
  | mk o k =>
    cases o with
    | none => unfold encR; rw [hR]; simp
    | some e =>
      have hW := found_W hR
      unfold encR
      rw [hR]
      simp only [Option.getD_some]
      unfold encF
      have h1 := prefF_len9 e.pg
      have h2 := hW.len
      have h3 := lets_len (numD e (canonOf x).args) (numN e (canonOf x).args) e.ex
      split
      · simp only [List.length_append, List.length_singleton]; omega
      · simp only [List.length_append, List.length_singleton]; omega
def AllP (w : World) (l : List Ins) (e : Ending) (w' : World) : Prop :=
  (match stopE l 0 with
    | some (k, c) => e = .returned (.tuple #[.slice none 0 0, .int .i64 k, .int .i64 c])
    | none => ∃ v, e = .returned (.tuple #[v, .int .i64 l.length, .int .i64 0]) ∧ Own byteR w' w.heap.size 5 NoB v (l.map encB).flatten) ∧ RowKit.Below w.heap.size w w'
theorem stop_none {x : Ins} {r : List Ins} {k : Nat} {c : Int} (h : encR x = (none, c)) : stopE (x :: r) k = some (k, c) := by rw [stopE, h]
theorem stop_some {x : Ins} {r : List Ins} {k : Nat} {c : Int} {b : List UInt8} (h : encR x = (some b, c)) : stopE (x :: r) k = stopE r (k + 1) := by rw [stopE, h]
theorem flat_le (l : List Ins) : (l.map encB).flatten.length ≤ 100 * l.length := by
  induction l with
  | nil => simp
  | cons x r ih => have := encB_len x; rw [List.map_cons, List.flatten_cons, List.length_append, List.length_cons]; omega
set_option maxHeartbeats 8000000 in
set_option maxRecDepth 100000 in
theorem All11_any (p : Blocks) (v : Value) (l : List Ins) (w : World) (h : SlR insSR w p v l) (hm : ∀ x ∈ l, Mild x) (hl : l.length ≤ 1000) :
    Calls Tryz.prog 46 #[v] w (AllP w l) := by
  obtain ⟨a, c, rfl, _, _, hc⟩ := h.ins
  have HOLD := Lib.hid h.old
  have HM := Lib.hid hm
  have HL := Lib.hid hl
  have HC : Hid (∀ W, RowKit.Below w.heap.size w W → ∀ i x, l[i]? = some x → ∃ b o va, a = some ⟨b, o, none⟩ ∧ W.cell? ⟨b, o + i * 2, none⟩ = some (.string x.op) ∧ W.cell? ⟨b, o + i * 2 + 1, none⟩ = some va ∧ SlR opdR W (fun _ => True) va x.args) := Lib.hid (fun W hb i x hx => by
    obtain ⟨a', c', e, _, _, hc'⟩ := (HOLD.out.below hb).ins
    injection e with e1 e2 e3
    subst e1
    obtain ⟨b, o, va, ea, _, h1, h2, h3⟩ := hc' i x hx
    exact ⟨b, o, va, ea, h1, h2, h3.mono (fun _ _ => trivial)⟩)
  obtain ⟨RS, hRS⟩ : ∃ R, R = stopE l 0 := ⟨_, rfl⟩
  have HRS := Lib.hid hRS
  clear h hm hl hc
  go_enter Tryz.func46, Tryz.ntmps46
  go_wp2
  go_loopw [5, 6, 7, 8] (fun vo i _ _ wr => ∃ k : Nat, k ≤ l.length ∧ i = .int .i64 k ∧ Own byteR wr w.heap.size 5 NoB vo ((l.take k).map encB).flatten ∧ RowKit.Below w.heap.size w wr ∧ stopE (l.drop k) k = RS) (fun _ i _ _ _ => l.length - (intOf i).toNat)
  case atStart => exact ⟨0, Nat.zero_le _, rfl, Own.nil _ _ _ _ _, Below.refl _ _, hRS.symm⟩
  case round =>
    obtain ⟨k, hk, rfl, ho, hb, hst⟩ := hrel
    obtain ⟨ua, uc, rfl⟩ := ho.form
    have HO := Lib.hid ho
    have HB := Lib.hid hb
    have HST := Lib.hid hst
    clear ho hb hst hRS
    by_cases hlt : k < l.length
    · have HD : Hid (l.drop k = l[k] :: l.drop (k + 1)) := Lib.hid (List.drop_eq_getElem_cons hlt)
      have HK2 : Hid (((l.take (k + 1)).map encB).flatten = ((l.take k).map encB).flatten ++ encB l[k]) := Lib.hid (by rw [List.take_succ_eq_append_getElem hlt, List.map_append, List.flatten_append]; simp)
      have hn9 : ((l.take k).map encB).flatten.length ≤ 100000 := by
        have h1 := flat_le (l.take k)
        have h2 : (l.take k).length = k := by rw [List.length_take]; omega
        rw [h2] at h1
        have := HL.out
        omega
      have HN := Lib.hid hn9
      clear hn9
      obtain ⟨b, o, va, rfl, x0, x1, hx⟩ := HC.out _ HB.out k l[k] (List.getElem?_eq_getElem hlt)
      have HE := Lib.hid (Encode11_any l[k] (HM.out _ (List.getElem_mem hlt)) _ va _ hx)
      have HBL := Lib.hid (encB_len l[k])
      have HBE : Hid (encB l[k] = (encR l[k]).1.getD []) := Lib.hid rfl
      obtain ⟨va', vc', rfl⟩ : ∃ a c, va = .slice a l[k].args.length c := by obtain ⟨a, c, e, _⟩ := hx; exact ⟨a, c, e⟩
      clear hx
      generalize l[k] = x at *
      generalize ((l.take k).map encB).flatten = T at *
      cases hR : encR x with
      | mk o9 c9 =>
      rw [hR] at HE HBE
      have HR := Lib.hid hR
      clear hR
      cases o9 with
      | none =>
        have hne := encR_none HR.out
        have HSP : Hid (stopE l 0 = some (k, c9)) := Lib.hid (by rw [← HRS.out, ← HST.out, HD.out, stop_none HR.out])
        go_wp2_with (go_at_call 82; refine (HE.out).mono ?_; rintro e w1 ⟨rfl, hb1⟩; have HB1 := Lib.hid (HB.out.trans (hb1.mono HB.out.size)); clear hb1)
        refine bodyPost_ret (results_tmp3 rfl _ _ _) rfl ⟨?_, HB1.out⟩
        rw [HSP.out]
        rfl
      | some bb =>
        obtain rfl := encR_some HR.out
        have HBB : Hid (encB x = bb) := Lib.hid (by rw [HBE.out]; rfl)
        rw [HBB.out] at HBL HK2
        have HNX : Hid (stopE (l.drop (k + 1)) (k + 1) = RS) := Lib.hid (by rw [← HST.out, HD.out, stop_some HR.out])
        clear HBE
        go_wp2_with (first
          | (go_at_call 82; refine (HE.out).mono ?_; rintro e w1 ⟨⟨v1, rfl, ho1⟩, hb1⟩; obtain ⟨wa, wc, rfl⟩ := ho1.form; have HB1 := Lib.hid (HB.out.trans (hb1.mono HB.out.size)); have HO1 := Lib.hid (HO.out.stay hb1); have HX1 := Lib.hid (Own.slR (q := fun j => wr.heap.size ≤ j) ho1 (fun _ h => h.elim) (fun _ h => h)); have HQ1 : Hid (∀ j, wr.heap.size ≤ j → some j ≠ Value.ownBlock (.slice ua T.length uc)) := Lib.hid (fun j hj e => by have := (HO.out.lt j e.symm).2; omega); clear ho1 hb1)
          | (at_builtin; refine wpList_append_R _ rfl (.tmp 27) (.tmp 28) 22 rfl w.heap.size 5 1 elByte NoB _ _ _ T bb rfl rfl HO1.out HX1.out (fun _ h => False.elim h) HQ1.out (by have := HN.out; have := HBL.out; omega) (by have := HN.out; have := HBL.out; omega) HB1.out.size ?_; intro v' w' hap; obtain ⟨ho, hg, _⟩ := hap; have HO2 := Lib.hid (ho.flat NoB); have HB2 := Lib.hid (HB1.out.grown hg HB1.out.size (fun k e => (HO1.out.lt k e).1)); clear ho hg))
        go_roundw
        case rel => exact ⟨k + 1, by omega, by go_num, by rw [HK2.out]; exact HO2.out, HB2.out, HNX.out⟩
        case measure => simp [intOf]; omega
    · obtain rfl : k = l.length := by omega
      have HNO : Hid (stopE l 0 = none) := Lib.hid (by rw [← HRS.out, ← HST.out, List.drop_length]; rfl)
      have HTT : Hid (l.take l.length = l) := Lib.hid List.take_length
      clear hlt
      go_wp2
      refine bodyPost_ret (results_tmp3 rfl _ _ _) rfl ⟨?_, HB.out⟩
      rw [HNO.out]
      refine ⟨_, rfl, ?_⟩
      rw [← congrArg (fun z => (List.map encB z).flatten) HTT.out]
      exact HO.out
end Go.Proofs.YtjmekllgnhkodaaGreatDoor
