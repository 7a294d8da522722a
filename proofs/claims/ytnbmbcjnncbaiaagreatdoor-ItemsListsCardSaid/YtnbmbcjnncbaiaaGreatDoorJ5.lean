/-
  Lists of items: Raw, both; breadboardref13.Same. Conditions: sizes.
-/
import Derived.Test.YtnbmbcjnncbaiaaGreatDoorJ3
import Derived.Test.YtnbmbcjnncbaiaaGreatDoorD22
import Derived.Lib.AppendZerosOnto
namespace Go.Proofs.YtnbmbcjnncbaiaaGreatDoor
open Go.RowKit Go.Shelf Go.Sort

/-- the bytes of items -/
def rawF (l : List It) : List UInt8 := l.flatMap (·.raw)
theorem rawF_items (l : List UInt8) : rawF (itemsF l) = l := itemsF_raw l
theorem rawF_succ {l : List It} {k : Nat} (h : k < l.length) : rawF (l.take (k + 1)) = rawF (l.take k) ++ l[k].raw := by
  unfold rawF; rw [List.take_succ_eq_append_getElem h, List.flatMap_append, List.flatMap_singleton]
theorem rawF_take (l : List It) (k : Nat) : (rawF (l.take k)).length ≤ (rawF l).length := by
  conv => rhs; rw [← List.take_append_drop k l]
  unfold rawF
  rw [List.flatMap_append, List.length_append]; omega
set_option maxHeartbeats 4000000 in
set_option maxRecDepth 100000 in
theorem Raw_any (p : Blocks) (v : Value) (ls : List It) (w : World) (h : SlR itR w p v ls) (hf : (rawF ls).length ≤ 1000000) :
    Calls Tryz.prog 36 #[v] w fun e w' => ∃ v', e = .returned v' ∧ Own byteR w' w.heap.size 5 NoB v' (rawF ls) ∧ RowKit.Below w.heap.size w w' := by
  have HH := Lib.hid h.old
  obtain ⟨a, c, rfl, _, _, _⟩ := h.it
  have HF := Lib.hid hf
  clear h hf
  go_enter Tryz.func36, Tryz.ntmps36
  go_wp2
  go_loopw [3, 5, 8] (fun vo _ i wr => ∃ k : Nat, k ≤ ls.length ∧ i = .int .i64 k ∧ Own byteR wr w.heap.size 5 NoB vo (rawF (ls.take k)) ∧ RowKit.Below w.heap.size w wr) (fun _ _ i _ => ls.length - (intOf i).toNat)
  case atStart => exact ⟨0, Nat.zero_le _, rfl, Own.nil _ _ _ _ _, Below.refl _ _⟩
  case round =>
    obtain ⟨k, hk, rfl, ho, hb⟩ := hrel
    obtain ⟨ua, uc, rfl⟩ := ho.form
    have HO := Lib.hid ho
    have HB := Lib.hid hb
    by_cases hlt : k < ls.length
    · obtain ⟨a9, c9, e9, _, _, g9⟩ := (HH.out.below hb).it
      injection e9 with e9 e10 e11
      clear e10
      subst e9 e11
      obtain ⟨b, o, ra, rc, va, vc, rfl, hbl, x0, x1, x2, x3, x4, hr, _⟩ := g9 k ls[k] (List.getElem?_eq_getElem hlt)
      have HR := Lib.hid hr
      have HK2 := Lib.hid (rawF_succ hlt)
      have e1 := congrArg List.length HK2.out
      rw [List.length_append] at e1
      have e2 := rawF_take ls (k + 1)
      have e3 := HF.out
      have HN : Hid ((rawF (ls.take k)).length + ls[k].raw.length ≤ 1000000) := Lib.hid (by omega)
      have HQ : Hid (∀ j, p j ∧ j < w.heap.size → some j ≠ Value.ownBlock (.slice ua (rawF (ls.take k)).length uc)) := Lib.hid (fun j hj e => by have := (HO.out.lt j e.symm).1; omega)
      clear e1 e2 e3 ho hb g9 hr
      generalize ls[k] = x at *
      generalize rawF (ls.take k) = T at *
      obtain ⟨k9, R1, op, args, al⟩ := x
      dsimp only at x0 x1 x2 x3 x4 HR HK2 HN
      go_upto_region 5 with fail
      have HBN : Hid (RowKit.Below wr.heap.size wr (wr.alloc (.cells #[.int .i64 k9, .slice ra R1.length rc, .string ⟨op.toArray⟩, .slice va args.length vc, .bool al] 29))) := Lib.hid ((Below.refl _ _).alloc (Nat.le_refl _) _)
      have HK3 := Lib.hid (Blk.new wr 29 #[.int .i64 k9, .slice ra R1.length rc, .string ⟨op.toArray⟩, .slice va args.length vc, .bool al])
      have HO3 := Lib.hid (HO.out.stay HBN.out)
      have HR3 := Lib.hid (HR.out.below HBN.out)
      have HB3 := Lib.hid (HB.out.trans (HBN.out.mono HB.out.size))
      generalize wr.alloc (.cells #[.int .i64 k9, .slice ra R1.length rc, .string ⟨op.toArray⟩, .slice va args.length vc, .bool al] 29) = W3 at *
      generalize wr.heap.size = tb at *
      have c1 : W3.cell? ⟨tb, 1, none⟩ = some (.slice ra R1.length rc) := HK3.out.cell 1
      clear HBN HK3 HO HR x0 x1 x2 x3 x4
      go_wp2_with (at_builtin; refine wpList_append_R _ rfl (.tmp 12) (.tmp 14) 22 rfl w.heap.size 5 1 elByte NoB _ _ _ T R1 rfl rfl HO3.out HR3.out (fun _ h => False.elim h) HQ.out (by have := HN.out; omega) (by have := HN.out; omega) HB3.out.size ?_; intro v' w' hap; obtain ⟨ho, hg, _⟩ := hap; have HO2 := Lib.hid (ho.flat NoB); have HB2 := Lib.hid (HB3.out.grown hg HB3.out.size (fun k e => (HO3.out.lt k e).1)); clear ho hg)
      go_roundw
      case rel => exact ⟨k + 1, by omega, by go_num, by rw [HK2.out]; exact HO2.out, HB2.out⟩
      case measure => simp [intOf]; omega
    · obtain rfl : k = ls.length := by omega
      have HTT : Hid (ls.take ls.length = ls) := Lib.hid List.take_length
      clear hlt
      go_wp2
      go_ret
      exact ⟨_, rfl, by rw [← congrArg rawF HTT.out]; exact HO.out, HB.out⟩
end Go.Proofs.YtnbmbcjnncbaiaaGreatDoor
