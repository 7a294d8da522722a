/-
  breadboardref13.Decode. Conditions: sizes.
-/
import Derived.Test.YtnbmbcjnncbaiaaGreatDoorJ2
import Derived.Test.YtnbmbcjnncbaiaaGreatDoorQF
namespace Go.Proofs.YtnbmbcjnncbaiaaGreatDoor
open Go.RowKit Go.Shelf Go.Sort

/-- what a call hands back that makes a list of items -/
def ItsP (w : World) (L : List It) (e : Ending) (w' : World) : Prop := (∃ v, e = .returned v ∧ Acc itR w' w.heap.size tItm v L) ∧ RowKit.Below w.heap.size w w'
def lenOf : Value → Nat
  | .slice _ n _ => n
  | _ => 0
theorem Acc.far {w : World} {B k : Nat} {e : TypeId} {v : Value} {xs : List It} (h : Acc itR w B e v xs) (hk : w.heap.size ≤ k) : v.ownBlock ≠ some k := fun e => by have := (h.lt k e).2; omega
set_option maxHeartbeats 4000000 in
set_option maxRecDepth 100000 in
theorem Dec13_any (p : Blocks) (a : Option Addr) (c : Nat) (l : List UInt8) (w : World) (hs : SlR byteR w p (.slice a l.length c) l) (hl : l.length ≤ 1000000) :
    Calls Tryz.prog 25 #[.slice a l.length c] w (ItsP w (itemsF l)) := by
  have HS := Lib.hid hs
  have HL := Lib.hid hl
  clear hs hl
  go_enter Tryz.func25, Tryz.ntmps25
  go_wp2
  go_loopw [0, 3, 4] (fun b out _ wr => ∃ (k : Nat) (pre : List It) (a1 : Option Addr) (c1 : Nat), b = .slice a1 (l.drop k).length c1 ∧ SlR byteR w p (.slice a1 (l.drop k).length c1) (l.drop k) ∧ pre ++ itemsF (l.drop k) = itemsF l ∧ Acc itR wr w.heap.size tItm out pre ∧ RowKit.Below w.heap.size w wr) (fun b _ _ _ => lenOf b)
  case atStart => exact ⟨0, [], a, c, rfl, HS.out, rfl, Acc.nil _ _ _, Below.refl _ _⟩
  case round =>
    obtain ⟨k, pre, a1, c1, rfl, hsl, hpre, hacc, hb⟩ := hrel
    have HLK : Hid ((l.drop k).length ≤ 1000000) := Lib.hid (by have := HL.out; rw [List.length_drop]; omega)
    have HDR : Hid (∀ n, l.drop (k + n) = (l.drop k).drop n) := Lib.hid (fun n => by rw [List.drop_drop])
    have HPN : Hid (pre.length ≤ 1000000) := Lib.hid (by
      have h1 := congrArg List.length hpre
      have h2 := itemsF_len l
      rw [List.length_append] at h1
      have := HL.out
      omega)
    obtain ⟨oa, oc, rfl⟩ := hacc.form
    have HSL := Lib.hid hsl
    have HPR := Lib.hid hpre
    have HAC := Lib.hid hacc
    have HB := Lib.hid hb
    clear hsl hpre hacc hb
    generalize hLL : l.drop k = L at *
    clear hLL
    by_cases h0 : 0 < L.length
    · have h0' : (0 : Int) < (L.length : Int) := by omega
      have HCO := Lib.hid (itemsF_cons h0)
      have HFI := Lib.hid (First12_any p a1 c1 L wr (HSL.out.below HB.out) h0 HLK.out)
      have hrl := itF_raw L h0
      have hn9 := itF_n L h0
      obtain ⟨R1, hR1⟩ : ∃ R, R = L.take (itF L).n := ⟨_, rfl⟩
      have HX0 : Hid ((itF L).it L = ⟨(itF L).k, R1, (itF L).op, (itF L).args, (itF L).al⟩) := Lib.hid (by rw [hR1]; rfl)
      rw [← hR1] at hrl
      obtain ⟨a2, c2, hrun, hs2⟩ := cut_rest HSL.out R1.length (by omega) h0
      have HS2 := Lib.hid hs2
      have HD2 : Hid (L.drop (itF L).n = L.drop R1.length ∧ (L.drop R1.length).length < L.length) := Lib.hid ⟨by rw [hrl], by rw [List.length_drop]; omega⟩
      have HR1 := Lib.hid hR1
      clear hrl hn9 hR1 hs2
      go_upto_region 4 with (go_at_call 21; refine (HFI.out).mono ?_; rintro e w2 ⟨⟨v, rfl, hi⟩, hb2⟩; obtain ⟨ra, rc, va, vc, rfl, x1, x2⟩ := hi; rw [← HR1.out] at x1 ⊢; have HX1 := Lib.hid x1; have HX2 := Lib.hid x2; have HA2 := Lib.hid (HAC.out.stay hb2); have HB2 := Lib.hid hb2; clear x1 x2 hb2; unfold itmV)
      have HBN : Hid (RowKit.Below w2.heap.size w2 (w2.alloc (.cells #[.int .i64 (itF L).k, .slice ra R1.length rc, .string ⟨(itF L).op.toArray⟩, .slice va (itF L).args.length vc, .bool (itF L).al] 29))) := Lib.hid ((Below.refl _ _).alloc (Nat.le_refl _) _)
      have HK3 := Lib.hid (Blk.new w2 29 #[.int .i64 (itF L).k, .slice ra R1.length rc, .string ⟨(itF L).op.toArray⟩, .slice va (itF L).args.length vc, .bool (itF L).al])
      have HA3 := Lib.hid (HA2.out.stay HBN.out)
      have HY1 := Lib.hid (HX1.out.below HBN.out)
      have HY2 := Lib.hid (HX2.out.below HBN.out)
      have HB3 := Lib.hid ((HB.out.trans (HB2.out.mono HB.out.size)).trans (HBN.out.mono (Nat.le_trans HB.out.size HB2.out.size)))
      have HZ3 : Hid (wr.heap.size ≤ w2.heap.size) := Lib.hid HB2.out.size
      have HNE : Hid (∀ b, wr.heap.size ≤ b → Value.ownBlock (.slice oa pre.length oc) ≠ some b) := Lib.hid (fun b h => HAC.out.far h)
      generalize w2.alloc (.cells #[.int .i64 (itF L).k, .slice ra R1.length rc, .string ⟨(itF L).op.toArray⟩, .slice va (itF L).args.length vc, .bool (itF L).al] 29) = W3 at *
      generalize w2.heap.size = tb at *
      obtain ⟨⟨c0, c1', c2', c3, c4⟩, _⟩ := HK3.out.five
      clear HX1 HX2 HA2 HBN HB2 HAC HFI
      go_wp2_with (at_builtin; refine wpList_push_A rfl (.tmp 10) (.tmp 12) tIL rfl w.heap.size tItm 80 elIT _ pre ⟨(itF L).k, R1, (itF L).op, (itF L).args, (itF L).al⟩ _ (fun b => wr.heap.size ≤ b) rfl rfl HA3.out ⟨ra, rc, va, vc, rfl, HY1.out, HY2.out⟩ (fun b h => ⟨Nat.le_trans HB.out.size h, HNE.out b h⟩) (by have := HPN.out; omega) (by have := HPN.out; omega) HB3.out.size ?_; intro a5 c5 w5 hp; have HP := Lib.hid hp; have k1 := ((HK3.out.grown hp.2.1 (fun e => HNE.out tb HZ3.out e.symm)).five).1.2.1; clear hp)
      go_roundw
      case rel => exact ⟨k + R1.length, pre ++ [⟨(itF L).k, R1, (itF L).op, (itF L).args, (itF L).al⟩], a2, c2, by rw [HDR.out, List.length_drop], by rw [HDR.out]; exact HS2.out, by rw [HDR.out, ← HPR.out, HCO.out, HX0.out, HD2.out.1, List.append_assoc]; rfl, HP.out.1, HB3.out.trans (HP.out.below HA3.out HB3.out.size)⟩
      case measure =>
        have := HD2.out.2
        rw [List.length_drop] at this
        exact this
    · have hL0 : ¬ (0 : Int) < (L.length : Int) := by omega
      have HE : Hid (pre = itemsF l) := Lib.hid (by rw [← HPR.out, itemsF_nil (by omega), List.append_nil])
      go_wp2
      go_ret
      exact ⟨⟨_, rfl, by rw [← HE.out]; exact HAC.out⟩, HB.out⟩
end Go.Proofs.YtnbmbcjnncbaiaaGreatDoor
