/-
  items.Code. Conditions: sizes.
-/
import Derived.Test.YtnbmbcjnncbaiaaGreatDoorJ20
import Derived.Test.YtnbmbcjnncbaiaaGreatDoorPB
namespace Go.Proofs.YtnbmbcjnncbaiaaGreatDoor
open Go.RowKit Go.Shelf Go.Sort

theorem elInsI : ElT Tryz.prog 55 27 insSR.size 40 := ElT.mk' (z := .agg #[.string ⟨#[]⟩, .slice none 0 0]) Tryz.underlying55 (by kernel_rfl) rfl (by decide)
def It.ins (x : It) : Ins := ⟨⟨x.op.toArray⟩, x.args⟩
/-- the instructions of items -/
def codeF (L : List It) : List Ins := (L.filter (fun x => decide (x.k = 1))).map It.ins
theorem codeF_yes {L : List It} {k : Nat} (h : k < L.length) (hk : L[k].k = 1) : codeF (L.take (k + 1)) = codeF (L.take k) ++ [L[k].ins] := by
  unfold codeF; rw [List.take_succ_eq_append_getElem h, List.filter_append, List.map_append]; simp [hk]
theorem codeF_no {L : List It} {k : Nat} (h : k < L.length) (hk : ¬ L[k].k = 1) : codeF (L.take (k + 1)) = codeF (L.take k) := by
  unfold codeF; rw [List.take_succ_eq_append_getElem h, List.filter_append, List.map_append]; simp [hk]
theorem codeF_len (L : List It) (k : Nat) : (codeF (L.take k)).length ≤ L.length := by
  unfold codeF; rw [List.length_map]
  exact Nat.le_trans (List.length_filter_le _ _) (by rw [List.length_take]; omega)
theorem Acc.farI {α : Type} {R : Rep α} {w : World} {B k : Nat} {e : TypeId} {v : Value} {xs : List α} (h : Acc R w B e v xs) (hk : w.heap.size ≤ k) : v.ownBlock ≠ some k := fun e => by have := (h.lt k e).2; omega
set_option maxHeartbeats 8000000 in
set_option maxRecDepth 100000 in
theorem Code_any (p : Blocks) (v : Value) (ls : List It) (w : World) (h : SlR itR w p v ls) (hn : ls.length ≤ 1000) (ha : ∀ x ∈ ls, x.args.length ≤ 1000) :
    Calls Tryz.prog 45 #[v] w fun e w' => (∃ v', e = .returned v' ∧ Acc insSR w' w.heap.size 27 v' (codeF ls)) ∧ RowKit.Below w.heap.size w w' := by
  have HH := Lib.hid h.old
  obtain ⟨a, c, rfl, _, _, _⟩ := h.it
  have HN := Lib.hid hn
  have HAL := Lib.hid ha
  clear h hn ha
  go_enter Tryz.func45, Tryz.ntmps45
  go_wp2
  go_loopw [3, 5, 6, 9] (fun vo _ _ i wr => ∃ k : Nat, k ≤ ls.length ∧ i = .int .i64 k ∧ Acc insSR wr w.heap.size 27 vo (codeF (ls.take k)) ∧ RowKit.Below w.heap.size w wr) (fun _ _ _ i _ => ls.length - (intOf i).toNat)
  case atStart => exact ⟨0, Nat.zero_le _, rfl, Acc.nil _ _ _, Below.refl _ _⟩
  case round =>
    obtain ⟨k, hk, rfl, ho, hb⟩ := hrel
    obtain ⟨ua, uc, rfl⟩ := ho.form
    have HO := Lib.hid ho
    have HB := Lib.hid hb
    by_cases hlt : k < ls.length
    · obtain ⟨a9, c9, e9, _, _, g9⟩ := (HH.out.below hb).it
      injection e9 with e9 e10 e11
      clear e10
      subst e9 e11
      obtain ⟨b, o, ra, rc, va, vc, rfl, hbl, x0, x1, x2, x3, x4, _, hr⟩ := g9 k ls[k] (List.getElem?_eq_getElem hlt)
      have HR := Lib.hid hr
      have HYS := Lib.hid (fun h => codeF_yes hlt h)
      have HNO := Lib.hid (fun h => codeF_no hlt h)
      have HLE := Lib.hid (codeF_len ls k)
      have HAK := Lib.hid (HAL.out ls[k] (List.getElem_mem hlt))
      clear ho hb g9 hr
      generalize ls[k] = x at *
      obtain ⟨k9, R1, op, args, al⟩ := x
      dsimp only at x0 x1 x2 x3 x4 HR HYS HNO HAK
      have HI : Hid (It.ins ⟨k9, R1, op, args, al⟩ = ⟨⟨op.toArray⟩, args⟩) := Lib.hid rfl
      obtain ⟨T2, hT2⟩ : ∃ T, codeF (ls.take (k + 1)) = T := ⟨_, rfl⟩
      rw [hT2] at HYS HNO
      have HT2 := Lib.hid hT2
      clear hT2
      generalize codeF (ls.take k) = T at *
      generalize (⟨op.toArray⟩ : ByteArray) = O at *
      have HBN : Hid (RowKit.Below wr.heap.size wr (wr.alloc (.cells #[.int .i64 k9, .slice ra R1.length rc, .string O, .slice va args.length vc, .bool al] 29))) := Lib.hid ((Below.refl _ _).alloc (Nat.le_refl _) _)
      by_cases hk1 : k9 = 1
      · subst hk1
        have HE := Lib.hid (HYS.out rfl)
        rw [HI.out] at HE
        go_upto_region 5 with fail
        have HK1 := Lib.hid (Blk.new wr 29 #[.int .i64 1, .slice ra R1.length rc, .string O, .slice va args.length vc, .bool al])
        have HZ1 : Hid ((wr.alloc (.cells #[.int .i64 1, .slice ra R1.length rc, .string O, .slice va args.length vc, .bool al] 29)).heap.size = wr.heap.size + 1) := Lib.hid (World.size_alloc _ _)
        generalize wr.alloc (.cells #[.int .i64 1, .slice ra R1.length rc, .string O, .slice va args.length vc, .bool al] 29) = W1 at *
        obtain ⟨⟨c0, c1, c2, c3, c4⟩, _⟩ := HK1.out.five
        go_upto_region 7 with fail
        have HK2 := Lib.hid (Blk.new W1 27 #[.string O, .slice va args.length vc])
        have HB2 := Lib.hid (HBN.out.alloc HBN.out.size (.cells #[.string O, .slice va args.length vc] 27))
        have HZ2 : Hid (wr.heap.size ≤ W1.heap.size) := Lib.hid HBN.out.size
        generalize W1.alloc (.cells #[.string O, .slice va args.length vc] 27) = W2 at *
        clear c0 c1 c2 c3 c4 HK1 HZ1 HBN
        generalize W1.heap.size = b2 at *
        have HL2 : Hid (b2 < W2.heap.size) := Lib.hid HK2.out.lt
        obtain ⟨m0, m1, f0, f1⟩ := HK2.out.two
        have HCL := Lib.hid (CloneOpd_any _ _ _ W2 (HR.out.below HB2.out) (by have := HAK.out; omega))
        go_upto_region 8 with (go_at_call 68; refine (HCL.out).mono ?_; rintro e w4 ⟨v4, rfl, ho4, hb4⟩; obtain ⟨ca, cc, rfl⟩ := ho4.form; have HK4 := Lib.hid (HK2.out.below hb4 HK2.out.lt); have HB4 := Lib.hid (HB2.out.trans (hb4.mono HB2.out.size)); have HS4 := Lib.hid (ho4.slR (q := fun b => W2.heap.size ≤ b) (fun _ h => h.elim) (fun _ h => h)); clear m0 m1 f0 f1 ho4 hb4; obtain ⟨m0, m1, f0, f1⟩ := HK4.out.two)
        have HK5 : Hid (Blk (w4.setCell ⟨b2, 1, none⟩ (.slice ca args.length cc)) b2 27 #[.string O, .slice ca args.length cc]) := Lib.hid (HK4.out.set 1 _)
        have HB5 := Lib.hid (HB4.out.setCell (p := ⟨b2, 1, none⟩) HZ2.out (.slice ca args.length cc))
        have HS5 := Lib.hid (HS4.out.keep (Keep.setCell (a := ⟨b2, 1, none⟩) (fun k hk => by have := HL2.out; have hk : W2.heap.size ≤ k := hk; show k ≠ b2; omega) (.slice ca args.length cc)))
        generalize w4.setCell ⟨b2, 1, none⟩ (.slice ca args.length cc) = W5 at *
        clear m0 m1 f0 f1
        obtain ⟨m0, m1, f0, f1⟩ := HK5.out.two
        have HA5 := Lib.hid (HO.out.stay HB5.out)
        have HBW := Lib.hid (HB.out.trans (HB5.out.mono HB.out.size))
        have HQ : Hid (∀ k, W2.heap.size ≤ k → w.heap.size ≤ k ∧ Value.ownBlock (.slice ua T.length uc) ≠ some k) := Lib.hid (fun k hk => ⟨by have := HB.out.size; have := HB2.out.size; omega, HO.out.farI (by have := HB2.out.size; omega)⟩)
        go_wp2_with (at_builtin; refine wpList_push_A rfl (.tmp 22) (.tmp 24) 55 rfl w.heap.size 27 40 elInsI _ T ⟨O, args⟩ _ (fun b => W2.heap.size ≤ b) rfl rfl HA5.out ⟨_, rfl, HS5.out⟩ HQ.out (by have := HLE.out; have := HN.out; omega) (by have := HLE.out; have := HN.out; omega) HBW.out.size ?_; intro a5 c5 w6 hp; have HP := Lib.hid hp; clear hp)
        go_roundw
        case rel => exact ⟨k + 1, by omega, by go_num, by rw [HT2.out, HE.out]; exact HP.out.1, HBW.out.trans (HP.out.below HA5.out HBW.out.size)⟩
        case measure => simp [intOf]; omega
      · have HE := Lib.hid (HNO.out hk1)
        go_wp2
        go_roundw
        case rel => exact ⟨k + 1, by omega, by go_num, by rw [HT2.out, HE.out]; exact HO.out.stay HBN.out, HB.out.trans (HBN.out.mono HB.out.size)⟩
        case measure => simp [intOf]; omega
    · obtain rfl : k = ls.length := by omega
      have HTT : Hid (ls.take ls.length = ls) := Lib.hid List.take_length
      clear hlt
      go_wp2
      go_ret
      exact ⟨⟨_, rfl, by rw [← congrArg codeF HTT.out]; exact HO.out⟩, HB.out⟩
end Go.Proofs.YtnbmbcjnncbaiaaGreatDoor
