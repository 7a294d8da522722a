/-
  items.Offsets; breadboardref13.Raw, Check. Conditions: sizes.
-/
import Derived.Test.YtnbmbcjnncbaiaaGreatDoorJ19
import Derived.Test.YtnbmbcjnncbaiaaGreatDoorJ11
namespace Go.Proofs.YtnbmbcjnncbaiaaGreatDoor
open Go.RowKit Go.Shelf Go.Sort

/-- the offset of an item -/
def offF (L : List It) (k : Nat) : Nat := (rawF (L.take k)).length
theorem offF_zero (L : List It) : offF L 0 = 0 := rfl
theorem offF_succ {L : List It} {k : Nat} (h : k < L.length) : offF L (k + 1) = offF L k + L[k].raw.length := by unfold offF; rw [rawF_succ h, List.length_append]
theorem offF_le (L : List It) (k : Nat) : offF L k ≤ (rawF L).length := rawF_take L k
def offsF (L : List It) (k : Nat) : List Int := (List.range k).map (fun j => (offF L j : Int))
theorem offsF_succ (L : List It) (k : Nat) : offsF L (k + 1) = offsF L k ++ [(offF L k : Int)] := by unfold offsF; rw [List.range_succ, List.map_append]; rfl
theorem offsF_len (L : List It) (k : Nat) : (offsF L k).length = k := by simp [offsF]
theorem offsF_at (L : List It) {k j : Nat} (h : j < k) : (offsF L k)[j]? = some (offF L j : Int) := by simp [offsF, h]
set_option maxHeartbeats 4000000 in
set_option maxRecDepth 100000 in
theorem Offsets_any (p : Blocks) (v : Value) (ls : List It) (w : World) (h : SlR itR w p v ls) (hf : (rawF ls).length ≤ 1000000) (hn : ls.length ≤ 1000000) :
    Calls Tryz.prog 42 #[v] w fun e w' => ∃ v', e = .returned v' ∧ Own intR w' w.heap.size 3 NoB v' (offsF ls ls.length) ∧ RowKit.Below w.heap.size w w' := by
  have HH := Lib.hid h.old
  obtain ⟨a, c, rfl, _, _, _⟩ := h.it
  have HF := Lib.hid hf
  have HNN := Lib.hid hn
  clear h hf hn
  go_enter Tryz.func42, Tryz.ntmps42
  go_wp2
  go_loopw [3, 4, 6, 9] (fun vo at_ _ i wr => ∃ k : Nat, k ≤ ls.length ∧ i = .int .i64 k ∧ at_ = .int .i64 (offF ls k) ∧ Own intR wr w.heap.size 3 NoB vo (offsF ls k) ∧ RowKit.Below w.heap.size w wr) (fun _ _ _ i _ => ls.length - (intOf i).toNat)
  case atStart => exact ⟨0, Nat.zero_le _, rfl, rfl, Own.nil _ _ _ _ _, Below.refl _ _⟩
  case round =>
    obtain ⟨k, hk, rfl, rfl, ho, hb⟩ := hrel
    obtain ⟨ua, uc, rfl⟩ := ho.form
    have HO := Lib.hid ho
    have HB := Lib.hid hb
    by_cases hlt : k < ls.length
    · obtain ⟨a9, c9, e9, _, _, g9⟩ := (HH.out.below hb).it
      injection e9 with e9 e10 e11
      clear e10
      subst e9 e11
      obtain ⟨b, o, ra, rc, va, vc, rfl, hbl, x0, x1, x2, x3, x4, _, _⟩ := g9 k ls[k] (List.getElem?_eq_getElem hlt)
      have HSU := Lib.hid (offF_succ hlt)
      have HLE := Lib.hid (offF_le ls (k + 1))
      have HOS := Lib.hid (offsF_succ ls k)
      have HOL := Lib.hid (offsF_len ls k)
      clear ho hb g9
      generalize ls[k] = x at *
      obtain ⟨k9, R1, op, args, al⟩ := x
      dsimp only at x0 x1 x2 x3 x4 HSU
      have hw1 : IntKind.i64.wrap ((offF ls k : Int) + (R1.length : Int)) = (offF ls k : Int) + (R1.length : Int) := by have := HSU.out; have := HLE.out; have := HF.out; rw [IntKind.wrap_i64]; omega
      have HE2 : Hid ((offF ls k : Int) + (R1.length : Int) = (offF ls (k + 1) : Nat)) := Lib.hid (by rw [HSU.out]; push_cast; rfl)
      obtain ⟨T, hT⟩ : ∃ T, offF ls k = T := ⟨_, rfl⟩
      rw [hT] at hw1 HE2 HOS ⊢
      clear hT
      generalize offsF ls k = xs at *
      go_upto_region 6 with fail
      have HBN : Hid (RowKit.Below wr.heap.size wr (wr.alloc (.cells #[.int .i64 k9, .slice ra R1.length rc, .string ⟨op.toArray⟩, .slice va args.length vc, .bool al] 29))) := Lib.hid ((Below.refl _ _).alloc (Nat.le_refl _) _)
      have HK3 := Lib.hid (Blk.new wr 29 #[.int .i64 k9, .slice ra R1.length rc, .string ⟨op.toArray⟩, .slice va args.length vc, .bool al])
      have HO3 := Lib.hid (HO.out.stay HBN.out)
      have HB3 := Lib.hid (HB.out.trans (HBN.out.mono HB.out.size))
      have HFR : Hid (∀ j, Value.ownBlock (.slice ua xs.length uc) = some j → j < wr.heap.size) := Lib.hid (fun j e => (HO.out.lt j e).2)
      generalize wr.alloc (.cells #[.int .i64 k9, .slice ra R1.length rc, .string ⟨op.toArray⟩, .slice va args.length vc, .bool al] 29) = W3 at *
      generalize wr.heap.size = tb at *
      clear HBN HO x0 x1 x2 x3 x4
      have HC1 : Hid ((xs.length + 1) * 8 ≤ 140737488355328) := Lib.hid (by have := HOL.out; have := HNN.out; omega)
      have HC2 : Hid (xs.length + 1 ≤ 9223372036854775807) := Lib.hid (by have := HOL.out; have := HNN.out; omega)
      go_wp2_with (at_builtin; refine wpList_push rfl (.tmp 13) (.tmp 15) 56 rfl w.heap.size 3 8 elInt _ xs (T : Int) _ rfl rfl HO3.out rfl HC1.out HC2.out HB3.out.size ?_; intro a' c' w' hp; have HP := Lib.hid hp; have k1 := ((HK3.out.grown hp.2 (fun e => Nat.lt_irrefl _ (HFR.out _ e.symm))).five).1.2.1; clear hp)
      go_roundw
      case rel => exact ⟨k + 1, by omega, by go_num, by rw [HE2.out], by rw [HOS.out]; exact HP.out.1, HB3.out.grown HP.out.2 HB3.out.size (fun j hj => (HO3.out.lt j hj).1)⟩
      case measure => simp [intOf]; omega
    · obtain rfl : k = ls.length := by omega
      clear hlt
      go_wp2
      go_ret
      exact ⟨_, rfl, HO.out, HB.out⟩
set_option maxHeartbeats 4000000 in
set_option maxRecDepth 100000 in
theorem Raw13_any (p : Blocks) (v : Value) (ls : List It) (w : World) (h : SlR itR w p v ls) (hf : (rawF ls).length ≤ 1000000) :
    Calls Tryz.prog 46 #[v] w fun e w' => ∃ v', e = .returned v' ∧ Own byteR w' w.heap.size 5 NoB v' (rawF ls) ∧ RowKit.Below w.heap.size w w' := by
  have HH := Lib.hid h.old
  obtain ⟨a, c, rfl, _, _, _⟩ := h.it
  have HF := Lib.hid hf
  clear h hf
  go_enter Tryz.func46, Tryz.ntmps46
  go_wp2
  go_loopw [3, 4] (fun vo i wr => ∃ k : Nat, k ≤ ls.length ∧ i = .int .i64 k ∧ Own byteR wr w.heap.size 5 NoB vo (rawF (ls.take k)) ∧ RowKit.Below w.heap.size w wr) (fun _ i _ => ls.length - (intOf i).toNat)
  case atStart => exact ⟨0, Nat.zero_le _, rfl, Own.nil _ _ _ _ _, Below.refl _ _⟩
  case round =>
    obtain ⟨k, hk, rfl, ho, hb⟩ := hrel
    obtain ⟨ua, uc, rfl⟩ := ho.form
    have HO := Lib.hid ho
    have HB := Lib.hid hb
    by_cases hlt : k < ls.length
    · obtain ⟨a9, c9, e9, _, _, g9⟩ := (HH.out.below hb).it
      injection e9 with e9 e10 e11
      clear e10
      subst e9 e11
      obtain ⟨b, o, ra, rc, va, vc, rfl, hbl, x0, x1, x2, x3, x4, hr, _⟩ := g9 k ls[k] (List.getElem?_eq_getElem hlt)
      have HR := Lib.hid hr
      have HK2 := Lib.hid (rawF_succ hlt)
      have e1 := congrArg List.length HK2.out
      rw [List.length_append] at e1
      have e2 := rawF_take ls (k + 1)
      have e3 := HF.out
      have HN : Hid ((rawF (ls.take k)).length + ls[k].raw.length ≤ 1000000) := Lib.hid (by omega)
      have HQ : Hid (∀ j, p j ∧ j < w.heap.size → some j ≠ Value.ownBlock (.slice ua (rawF (ls.take k)).length uc)) := Lib.hid (fun j hj e => by have := (HO.out.lt j e.symm).1; omega)
      clear e1 e2 e3 ho hb g9 hr
      generalize ls[k] = x at *
      generalize rawF (ls.take k) = T at *
      obtain ⟨k9, R1, op, args, al⟩ := x
      dsimp only at x0 x1 x2 x3 x4 HR HK2 HN
      go_wp2_with (at_builtin; refine wpList_append_R _ rfl (.tmp 11) (.tmp 16) 22 rfl w.heap.size 5 1 elByte NoB _ _ _ T R1 rfl rfl HO.out HR.out (fun _ h => False.elim h) HQ.out (by have := HN.out; omega) (by have := HN.out; omega) HB.out.size ?_; intro v' w' hap; obtain ⟨ho, hg, _⟩ := hap; have HO2 := Lib.hid (ho.flat NoB); have HB2 := Lib.hid (HB.out.grown hg HB.out.size (fun k e => (HO.out.lt k e).1)); clear ho hg)
      go_roundw
      case rel => exact ⟨k + 1, by omega, by go_num, by rw [HK2.out]; exact HO2.out, HB2.out⟩
      case measure => simp [intOf]; omega
    · obtain rfl : k = ls.length := by omega
      have HTT : Hid (ls.take ls.length = ls) := Lib.hid List.take_length
      clear hlt
      go_wp2
      go_ret
      exact ⟨_, rfl, by rw [← congrArg rawF HTT.out]; exact HO.out, HB.out⟩
set_option maxRecDepth 100000 in
theorem Check13_any (p : Blocks) (v : Value) (ls : List It) (w : World) (h : SlR itR w p v ls) (hf : (rawF ls).length ≤ 1000000) :
    Calls Tryz.prog 41 #[v] w fun e w' => e = .returned (.bool (lsEq (itemsF (rawF ls)) ls)) ∧ RowKit.Below w.heap.size w w' := by
  have HR := Lib.hid (Raw13_any p v ls w h hf)
  have HD := Lib.hid (fun q a c W hs => Dec13_any q a c (rawF ls) W hs hf)
  have HM := Lib.hid (fun q v1 W (hb : RowKit.Below w.heap.size w W) hs => SameL_any q p v1 v (itemsF (rawF ls)) ls W hs (h.below hb))
  clear hf
  obtain ⟨a1, c1, rfl, _, _, _⟩ := h.it
  clear h
  generalize lsEq (itemsF (rawF ls)) ls = R at *
  generalize itemsF (rawF ls) = L at *
  generalize rawF ls = B at *
  go_enter Tryz.func41, Tryz.ntmps41
  go_wp2_with (first
    | (go_at_call 46; refine (HR.out).mono ?_; rintro e w1 ⟨v1, rfl, ho, hb⟩; obtain ⟨xa, xc, rfl⟩ := ho.form; have HO := Lib.hid ho; have HB1 := Lib.hid hb; clear ho hb)
    | (go_at_call 25; refine (HD.out _ _ _ _ (HO.out.slR (q := fun _ => True) (fun _ h => h.elim) (fun _ _ => trivial))).mono ?_; rintro e w2 ⟨⟨v2, rfl, ha⟩, hb⟩; obtain ⟨ya, yc, rfl⟩ := ha.form; have HA2 := Lib.hid ha; have HB2 := Lib.hid (HB1.out.trans (hb.mono HB1.out.size)); clear ha hb)
    | (go_at_call 31; refine (HM.out _ _ _ HB2.out HA2.out.slR).mono ?_; rintro e w3 ⟨rfl, hb⟩; have HB3 := Lib.hid (HB2.out.trans (hb.mono HB2.out.size)); clear hb))
  go_ret
  exact ⟨rfl, HB3.out⟩
end Go.Proofs.YtnbmbcjnncbaiaaGreatDoor
