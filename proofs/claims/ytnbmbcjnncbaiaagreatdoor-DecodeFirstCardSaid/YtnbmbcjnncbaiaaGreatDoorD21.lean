/-
  breadboardref12.Need. Conditions: sizes.
-/
import Derived.Test.YtnbmbcjnncbaiaaGreatDoorD20
import Derived.Test.YtnbmbcjnncbaiaaGreatDoorQF
namespace Go.Proofs.YtnbmbcjnncbaiaaGreatDoor
open Go.RowKit Go.Shelf Go.Sort

set_option maxHeartbeats 4000000 in
set_option maxRecDepth 100000 in
theorem Need12_any (p : Blocks) (a : Option Addr) (c : Nat) (l : List UInt8) (w : World) (hs : SlR byteR w p (.slice a l.length c) l) (h0 : 0 < l.length) (hl : l.length ≤ 1000000) :
    Calls Tryz.prog 17 #[.slice a l.length c] w fun e w' => e = .returned (.int .i64 (needF l)) ∧ RowKit.Below w.heap.size w w' := by
  have HRD := Lib.hid (First12_any p a c l w hs h0 hl)
  have HPG := Lib.hid (fun W (hb : RowKit.Below w.heap.size w W) => page_any p a c l W (hs.below hb) h0 hl)
  obtain ⟨b0, o0, rfl, _, _, hcl⟩ := byteAt hs h0
  have HC := Lib.hid (fun W (hb : RowKit.Below w.heap.size w W) k (hk : k < l.length) => (by obtain ⟨b1, o1, e, _, _, h⟩ := byteAt (hs.below hb) h0; injection e with e; injection e with e1 e2; subst e1 e2; exact h k hk : W.cell? ⟨b0, o0 + k, none⟩ = some (.int .u8 (bAt l k))))
  have h0' : ¬ (l.length : Int) = 0 := by omega
  obtain ⟨h7, hpre⟩ := pgB_pre (l := l)
  clear hs h0 hcl
  by_cases hk : (itF l).k = 4
  · have h4 := itF_k4 hk
    have HNEED := Lib.hid (show needF l = if l.length ≤ pos (pgB l) then pos (pgB l) + 1 else match (atF (pgB l) (bAt l (pos (pgB l)))).1 with | some e => sizF e | none => 0 from by unfold needF; rw [if_pos hk]; rfl)
    have HTK : Hid ((l.take (⟨4, l.length, [], [], false⟩ : Itm).n).length = l.length) := Lib.hid (by show (l.take l.length).length = _; rw [List.take_length])
    by_cases hp : l.length ≤ pos (pgB l)
    · rw [if_pos hp] at HNEED
      rw [HNEED.out]
      have hq4 : pos (pgB l) ≤ 3 := by rcases pos_pre h7 with ⟨_, h⟩ | ⟨h1, h⟩ <;> omega
      generalize pos (pgB l) = K at *
      have hp' : (l.length : Int) ≤ (K : Int) := by omega
      have hKw : IntKind.i64.wrap ((K : Int) + 1) = ((K + 1 : Nat) : Int) := by rw [IntKind.wrap_i64]; omega
      clear hp hpre hq4 HNEED
      go_enter Tryz.func17, Tryz.ntmps17
      go_upto_region 2 with (go_at_call 21; refine (HRD.out).mono ?_; rintro e w1 ⟨⟨v, rfl, hi⟩, hb⟩; obtain ⟨ra, rc, va, vc, hv, _, _⟩ := hi; rw [h4] at hv; unfold itmV at hv; rw [HTK.out] at hv; dsimp only at hv; subst hv; have HB := Lib.hid hb; clear hb)
      have HL2 := Lib.hid (HB.out.alloc HB.out.size (.cells #[.int .i64 4, .slice ra l.length rc, .string ⟨#[]⟩, .slice va 0 vc, .bool false] 29))
      have HI := Lib.hid (Blk.new w1 29 #[.int .i64 4, .slice ra l.length rc, .string ⟨#[]⟩, .slice va 0 vc, .bool false])
      generalize w1.alloc (.cells #[.int .i64 4, .slice ra l.length rc, .string ⟨#[]⟩, .slice va 0 vc, .bool false] 29) = W at *
      generalize w1.heap.size = tb at *
      obtain ⟨⟨c0, c1, c2, c3, c4⟩, _⟩ := HI.out.five
      go_wp2_with (go_at_call 54; refine (HPG.out _ HL2.out).mono ?_; rintro e w2 ⟨rfl, hw2⟩; subst w2)
      go_ret
      exact ⟨rfl, HL2.out⟩
    · rw [if_neg hp] at HNEED
      have HP := Lib.hid hp
      have HPL : Hid (pos (pgB l) < l.length) := Lib.hid (by omega)
      cases hat : (atF (pgB l) (bAt l (pos (pgB l)))).1 with
      | none =>
        exfalso
        rw [hat] at HNEED
        have h5 := hk
        unfold itF itS at h5
        rw [if_neg hp] at h5
        cases ha : atF (pgB l) (bAt l (pos (pgB l))) with
        | mk o k =>
          rw [ha] at hat h5
          have hat : o = none := hat
          subst hat
          dsimp only at h5
          split at h5
          · exact absurd h5 (by show ¬ (2 : Int) = 4; decide)
          · exact absurd h5 (by show ¬ (3 : Int) = 4; decide)
      | some ev =>
        rw [hat] at HNEED
        dsimp only at HNEED
        have HEW := Lib.hid (entW_at h7 (bAt_lt l (pos (pgB l))) hat).1
        have hxs : (⟨ev.ex.toArray⟩ : ByteArray).size ≤ 1000 := by have := HEW.out.len; show ev.ex.toArray.size ≤ _; rw [List.size_toArray]; omega
        have HSZ := Lib.hid (fun va vn vc W => Size9_any ev.pg ev.op ⟨ev.iop.toArray⟩ ⟨ev.ex.toArray⟩ ev.al va vn vc W hxs)
        rw [show (⟨ev.ex.toArray⟩ : ByteArray).data.toList = ev.ex from rfl] at HSZ
        have hR : ((prefF ev.pg).length : Int) + 1 + lenX ev.ex = (needF l : Int) := by
          rw [HNEED.out]; unfold sizF
          rw [rdN_lenX]
          push_cast
          omega
        rw [hR] at HSZ
        obtain ⟨kk, hkk⟩ : ∃ kk, atF (pgB l) (bAt l (pos (pgB l))) = (some ev, kk) := ⟨_, Prod.ext hat rfl⟩
        have HAT := Lib.hid (fun W => AtRef_any (pgB l) (bAt l (pos (pgB l))) (bAt_lt l _) W)
        rw [hkk] at HAT
        clear hp hpre hat hR HEW HNEED hkk
        generalize needF l = NL at *
        have hp' : ¬ (l.length : Int) ≤ (pos (pgB l) : Int) := by have := HPL.out; omega
        have HCK := Lib.hid (fun W (hb : RowKit.Below w.heap.size w W) => HC.out W hb (pos (pgB l)) HPL.out)
        clear HC
        obtain ⟨p1, o1, i1, l1, s1, f1⟩ := ev
        unfold AtP at HAT
        dsimp only [entVal] at HAT HSZ
        generalize (⟨s1.toArray⟩ : ByteArray) = X at *
        generalize pos (pgB l) = K at *
        generalize bAt l K = xo at *
        generalize pgB l = q at *
        go_enter Tryz.func17, Tryz.ntmps17
        go_upto_region 2 with (go_at_call 21; refine (HRD.out).mono ?_; rintro e w1 ⟨⟨v, rfl, hi⟩, hb⟩; obtain ⟨ra, rc, va, vc, hv, _, _⟩ := hi; rw [h4] at hv; unfold itmV at hv; rw [HTK.out] at hv; dsimp only at hv; subst hv; have HB := Lib.hid hb; clear hb)
        have HL2 := Lib.hid (HB.out.alloc HB.out.size (.cells #[.int .i64 4, .slice ra l.length rc, .string ⟨#[]⟩, .slice va 0 vc, .bool false] 29))
        have HI := Lib.hid (Blk.new w1 29 #[.int .i64 4, .slice ra l.length rc, .string ⟨#[]⟩, .slice va 0 vc, .bool false])
        generalize w1.alloc (.cells #[.int .i64 4, .slice ra l.length rc, .string ⟨#[]⟩, .slice va 0 vc, .bool false] 29) = W at *
        generalize w1.heap.size = tb at *
        obtain ⟨⟨c0, c1, c2, c3, c4⟩, _⟩ := HI.out.five
        have hck := HCK.out W HL2.out
        go_wp2_with (first
          | (go_at_call 54; refine (HPG.out _ HL2.out).mono ?_; rintro e w2 ⟨rfl, hw2⟩; subst w2)
          | (go_at_call 55; refine (HAT.out _).mono ?_; rintro e w3 ⟨⟨v3, rfl, ho3⟩, hb3⟩; obtain ⟨qa, qc, rfl⟩ : ∃ a c, v3 = .slice a l1.length c := ho3.form; have HB3 := Lib.hid (HL2.out.trans (hb3.mono HL2.out.size)); clear hb3 ho3)
          | (go_at_call 56; refine (HSZ.out _ _ _ _).mono ?_; rintro e w4 ⟨rfl, hb4⟩; have HB4 := Lib.hid hb4; clear hb4))
        go_ret
        have hfin := HB3.out.alloc HB3.out.size (.cells #[.int .i64 p1, .int .u8 o1, .string ⟨i1.toArray⟩, .slice qa l1.length qc, .string X, .bool f1] tE9)
        exact ⟨rfl, hfin.trans (HB4.out.mono hfin.size)⟩
  · have HN : Hid (needF l = (l.take (itF l).n).length) := Lib.hid (by unfold needF; rw [if_neg hk])
    rw [HN.out]
    clear HN
    obtain ⟨R1, hR1⟩ : ∃ R, R = l.take (itF l).n := ⟨_, rfl⟩
    rw [← hR1]
    have HR1 := Lib.hid hR1
    clear hR1
    generalize itF l = IT at *
    go_enter Tryz.func17, Tryz.ntmps17
    go_upto_region 2 with (go_at_call 21; refine (HRD.out).mono ?_; rintro e w1 ⟨⟨v, rfl, hi⟩, hb⟩; obtain ⟨ra, rc, va, vc, hv, _, _⟩ := hi; unfold itmV at hv; rw [← HR1.out] at hv; subst hv; have HB := Lib.hid hb; clear hb)
    have HL2 := Lib.hid (HB.out.alloc HB.out.size (.cells #[.int .i64 IT.k, .slice ra R1.length rc, .string ⟨IT.op.toArray⟩, .slice va IT.args.length vc, .bool IT.al] 29))
    have HI := Lib.hid (Blk.new w1 29 #[.int .i64 IT.k, .slice ra R1.length rc, .string ⟨IT.op.toArray⟩, .slice va IT.args.length vc, .bool IT.al])
    generalize w1.alloc (.cells #[.int .i64 IT.k, .slice ra R1.length rc, .string ⟨IT.op.toArray⟩, .slice va IT.args.length vc, .bool IT.al] 29) = W at *
    generalize w1.heap.size = tb at *
    obtain ⟨⟨c0, c1, c2, c3, c4⟩, _⟩ := HI.out.five
    go_wp2
    go_ret
    exact ⟨rfl, HL2.out⟩
end Go.Proofs.YtnbmbcjnncbaiaaGreatDoor
