/-
  encode.All. Conditions: short instructions; the library's table as its initialiser lays it.
-/
import Derived.Test.YtjmekllgnhkodaaGreatDoorL2
import Derived.Test.YtjmekllgnhkodaaGreatDoorL1
namespace Go.Proofs.YtjmekllgnhkodaaGreatDoor
open Go.RowKit Go.Shelf Go.Sort

set_option maxHeartbeats 8000000 in
set_option maxRecDepth 100000 in
theorem AllE_any (p : Blocks) (v : Value) (l : List Ins) (w : World) (h : SlR insSR w p v l) (hT : Spc w) (hm : ∀ x ∈ l, Mild x) (hl : l.length ≤ 1000) :
    Calls Tryz.prog 45 #[v] w (AllP w l) := by
  obtain ⟨a, c, rfl, _, _, hc⟩ := h.ins
  have HOLD := Lib.hid h.old
  have HT := Lib.hid (fun W (hb : RowKit.Below w.heap.size w W) => hT.below hb)
  have HM := Lib.hid hm
  have HL := Lib.hid hl
  have HC : Hid (∀ W, RowKit.Below w.heap.size w W → ∀ i x, l[i]? = some x → ∃ b o va, a = some ⟨b, o, none⟩ ∧ W.cell? ⟨b, o + i * 2, none⟩ = some (.string x.op) ∧ W.cell? ⟨b, o + i * 2 + 1, none⟩ = some va ∧ SlR opdR W (fun _ => True) va x.args) := Lib.hid (fun W hb i x hx => by
    obtain ⟨a', c', e, _, _, hc'⟩ := (HOLD.out.below hb).ins
    injection e with e1 e2 e3
    subst e1
    obtain ⟨b, o, va, ea, _, h1, h2, h3⟩ := hc' i x hx
    exact ⟨b, o, va, ea, h1, h2, h3.mono (fun _ _ => trivial)⟩)
  obtain ⟨RS, hRS⟩ : ∃ R, R = stopE l 0 := ⟨_, rfl⟩
  have HRS := Lib.hid hRS
  clear h hm hl hc hT
  go_enter Tryz.func45, Tryz.ntmps45
  go_wp2
  go_loopw [5, 6, 7, 8, 9, 12] (fun vo _ _ _ _ i wr => ∃ k : Nat, k ≤ l.length ∧ i = .int .i64 k ∧ Acc rowR wr w.heap.size 22 vo ((l.take k).map encB) ∧ RowKit.Below w.heap.size w wr ∧ stopE (l.drop k) k = RS) (fun _ _ _ _ _ i _ => l.length - (intOf i).toNat)
  case atStart => exact ⟨0, Nat.zero_le _, rfl, Acc.nil _ _ _, Below.refl _ _, hRS.symm⟩
  case round =>
    obtain ⟨k, hk, rfl, ho, hb, hst⟩ := hrel
    obtain ⟨ua, uc, rfl⟩ := ho.form
    have HO := Lib.hid ho
    have HB := Lib.hid hb
    have HST := Lib.hid hst
    have HLK : Hid (((l.take k).map encB).length ≤ 1000) := Lib.hid (by have := HL.out; rw [List.length_map, List.length_take]; omega)
    clear ho hb hst hRS
    by_cases hlt : k < l.length
    · have HD : Hid (l.drop k = l[k] :: l.drop (k + 1)) := Lib.hid (List.drop_eq_getElem_cons hlt)
      have HK2 : Hid ((l.take (k + 1)).map encB = (l.take k).map encB ++ [encB l[k]]) := Lib.hid (by rw [List.take_succ_eq_append_getElem hlt, List.map_append]; rfl)
      obtain ⟨b, o, va, rfl, x0, x1, hx⟩ := HC.out _ HB.out k l[k] (List.getElem?_eq_getElem hlt)
      have HBE : Hid (encB l[k] = (encR l[k]).1.getD []) := Lib.hid rfl
      obtain ⟨va', vc', rfl⟩ : ∃ a c, va = .slice a l[k].args.length c := by obtain ⟨a, c, e, _⟩ := hx; exact ⟨a, c, e⟩
      have HAL := Lib.hid ((Below.refl wr.heap.size wr).alloc (Nat.le_refl _) (.cells #[.string l[k].op, .slice va' l[k].args.length vc'] 27))
      have HE := Lib.hid (Encode_any l[k] (HM.out _ (List.getElem_mem hlt)) _ (.slice va' l[k].args.length vc') _ (hx.below HAL.out) (HT.out _ (HB.out.trans (HAL.out.mono HB.out.size))))
      clear hx
      generalize l[k] = x at *
      generalize (l.take k).map encB = T at *
      cases hR : encR x with
      | mk o9 c9 =>
      rw [hR] at HE HBE
      have HR := Lib.hid hR
      clear hR
      cases o9 with
      | none =>
        have hne := encR_none HR.out
        have HSP : Hid (stopE l 0 = some (k, c9)) := Lib.hid (by rw [← HRS.out, ← HST.out, HD.out, stop_none HR.out])
        go_wp2_with (go_at_call 28; refine (HE.out).mono ?_; rintro e w1 ⟨rfl, hb1⟩; have HB1 := Lib.hid ((HB.out.trans (HAL.out.mono HB.out.size)).trans (hb1.mono (HB.out.trans (HAL.out.mono HB.out.size)).size)); clear hb1)
        refine bodyPost_ret (results_tmp3 rfl _ _ _) rfl ⟨?_, HB1.out⟩
        rw [HSP.out]
        rfl
      | some bb =>
        obtain rfl := encR_some HR.out
        have HBB : Hid (encB x = bb) := Lib.hid (by rw [HBE.out]; rfl)
        rw [HBB.out] at HK2
        have HNX : Hid (stopE (l.drop (k + 1)) (k + 1) = RS) := Lib.hid (by rw [← HST.out, HD.out, stop_some HR.out])
        have HLB : Hid ((T.length + 1) * 24 ≤ 140737488355328) := Lib.hid (by have := HLK.out; omega)
        have HLL : Hid (T.length + 1 ≤ 9223372036854775807) := Lib.hid (by have := HLK.out; omega)
        have HQ : Hid (∀ j, wr.heap.size ≤ j → w.heap.size ≤ j ∧ Value.ownBlock (.slice ua T.length uc) ≠ some j) := Lib.hid (fun j hj => ⟨Nat.le_trans HB.out.size hj, fun e => absurd (HO.out.lt j e).2 (Nat.not_lt.2 hj)⟩)
        clear HBE
        go_wp2_with (first
          | (go_at_call 28; refine (HE.out).mono ?_; rintro e w1 ⟨⟨v1, rfl, ho1⟩, hb1⟩; obtain ⟨wa, wc, rfl⟩ := ho1.form; have HWB := Lib.hid (HAL.out.trans (hb1.mono HAL.out.size)); have HO1 := Lib.hid (HO.out.stay HWB.out); have HR1 := Lib.hid (show rowR.rel w1 (fun j => wr.heap.size ≤ j) [.slice wa bb.length wc] bb from ⟨_, rfl, Own.slR (q := fun j => wr.heap.size ≤ j) ho1 (fun _ h => h.elim) (fun j h => Nat.le_trans HAL.out.size h)⟩); have HSZ := Lib.hid (show w.heap.size ≤ w1.heap.size from Nat.le_trans HB.out.size HWB.out.size); clear ho1 hb1)
          | (at_builtin; refine wpList_push_A rfl (.tmp 26) (.tmp 28) 64 rfl w.heap.size 22 24 elRow _ T bb _ (fun j => wr.heap.size ≤ j) rfl rfl HO1.out HR1.out HQ.out HLB.out HLL.out HSZ.out ?_; intro a' c' w' hp; have HP := Lib.hid hp; clear hp))
        go_roundw
        case rel => exact ⟨k + 1, by omega, by go_num, by rw [HK2.out]; have := HP.out.1; simpa using this, (HB.out.trans (HWB.out.mono HB.out.size)).trans (AccP.below HP.out HO1.out HSZ.out), HNX.out⟩
        case measure => simp [intOf]; omega
    · obtain rfl : k = l.length := by omega
      have HNO : Hid (stopE l 0 = none) := Lib.hid (by rw [← HRS.out, ← HST.out, List.drop_length]; rfl)
      have HTT : Hid ((l.take l.length).map encB = l.map encB) := Lib.hid (by rw [List.take_length])
      have HCC := Lib.hid (Concat_any _ _ _ wr HO.out.slR HLK.out (by have h1 := flat_le l; rw [HTT.out]; have := HL.out; omega))
      generalize (l.take l.length).map encB = T at *
      clear hlt
      go_wp2_with (go_at_call 48; refine (HCC.out).mono ?_; rintro e w1 ⟨v1, rfl, ho1, hb1⟩; have HO1 := Lib.hid ho1; have HB1 := Lib.hid (HB.out.trans (hb1.mono HB.out.size)); clear ho1 hb1)
      refine bodyPost_ret (results_tmp3 rfl _ _ _) rfl ⟨?_, HB1.out⟩
      rw [HNO.out]
      refine ⟨_, rfl, ?_⟩
      rw [← HTT.out]
      exact Own.base HO1.out HB.out.size
end Go.Proofs.YtjmekllgnhkodaaGreatDoor
