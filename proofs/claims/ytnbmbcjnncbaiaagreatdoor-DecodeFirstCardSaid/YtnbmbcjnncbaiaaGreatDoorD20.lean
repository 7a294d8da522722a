/-
  decode.Need. Conditions: the library's table as its initialiser lays it; sizes.
-/
import Derived.Test.YtnbmbcjnncbaiaaGreatDoorQE
namespace Go.Proofs.YtnbmbcjnncbaiaaGreatDoor
open Go.RowKit Go.Shelf Go.Sort

/-- how many bytes are needed to know the first item -/
def needF (l : List UInt8) : Nat :=
  if (itF l).k = 4 then (if l.length ≤ pos (pgB l) then pos (pgB l) + 1 else match (atF (pgB l) (bAt l (pos (pgB l)))).1 with | some e => sizF e | none => 0) else (l.take (itF l).n).length
theorem pos_pre {q : Nat} (h : q < 7) : ((prefF (q : Int)).length = 2 ∧ pos q = 3) ∨ ((prefF (q : Int)).length ≤ 1 ∧ pos q = (prefF (q : Int)).length) := by
  have : q = 0 ∨ q = 1 ∨ q = 2 ∨ q = 3 ∨ q = 4 ∨ q = 5 ∨ q = 6 := by omega
  rcases this with rfl | rfl | rfl | rfl | rfl | rfl | rfl
  · exact .inr ⟨by decide, rfl⟩
  · exact .inr ⟨by decide, rfl⟩
  · exact .inr ⟨by decide, rfl⟩
  · exact .inr ⟨by decide, rfl⟩
  · exact .inr ⟨by decide, rfl⟩
  · exact .inl ⟨by decide, rfl⟩
  · exact .inl ⟨by decide, rfl⟩
set_option maxHeartbeats 4000000 in
set_option maxRecDepth 100000 in
theorem Need_nil (a : Option Addr) (c : Nat) (w : World) :
    Calls Tryz.prog 16 #[.slice a 0 c] w fun e w' => e = .returned (.int .i64 1) ∧ RowKit.Below w.heap.size w w' := by
  have HRD := Lib.hid (fun W => read_nil a c W)
  go_enter Tryz.func16, Tryz.ntmps16
  go_upto_region 2 with (go_at_call 52; refine (HRD.out _).mono ?_; rintro e w1 ⟨⟨g, rfl⟩, hb⟩; have HL2 := Lib.hid (hb.alloc hb.size (.cells itm0 29)); clear hb)
  go_wp2
  go_ret
  exact ⟨rfl, HL2.out⟩
set_option maxHeartbeats 4000000 in
set_option maxRecDepth 100000 in
theorem Need_any (p : Blocks) (a : Option Addr) (c : Nat) (l : List UInt8) (w : World) (hT : Spc w) (hs : SlR byteR w p (.slice a l.length c) l) (h0 : 0 < l.length) (hl : l.length ≤ 1000000) :
    Calls Tryz.prog 16 #[.slice a l.length c] w fun e w' => e = .returned (.int .i64 (needF l)) ∧ RowKit.Below w.heap.size w w' := by
  have HRD := Lib.hid (read_any p a c l w hT hs h0 hl)
  have h0' : ¬ (l.length : Int) = 0 := by omega
  obtain ⟨h7, hpre⟩ := pgB_pre (l := l)
  clear hT hs h0
  by_cases hk : (itF l).k = 4
  · have h4 := itF_k4 hk
    have HNEED := Lib.hid (show needF l = if l.length ≤ pos (pgB l) then pos (pgB l) + 1 else match (atF (pgB l) (bAt l (pos (pgB l)))).1 with | some e => sizF e | none => 0 from by unfold needF; rw [if_pos hk])
    have HTK : Hid ((l.take (⟨4, l.length, [], [], false⟩ : Itm).n).length = l.length) := Lib.hid (by show (l.take l.length).length = _; rw [List.take_length])
    by_cases hp : l.length ≤ pos (pgB l)
    · rw [if_pos hp] at HNEED
      have HP := Lib.hid hp
      have HPP := Lib.hid (pos_pre h7)
      clear hp hpre
      rcases HPP.out with ⟨hq1, hq2⟩ | ⟨hq1, hq2⟩
      · have HQ := Lib.hid hq1
        rw [hq2] at HNEED
        rw [HNEED.out]
        clear hq1 hq2
        go_enter Tryz.func16, Tryz.ntmps16
        go_upto_region 2 with (go_at_call 52; refine (HRD.out).mono ?_; rintro e w1 ⟨⟨g, v, rfl, hi, hn⟩, hb⟩; obtain ⟨ra, rc, va, vc, hv, _, _⟩ := hi; rw [h4] at hv; unfold itmV at hv; rw [HTK.out] at hv; dsimp only at hv; subst hv; obtain ⟨xe, xa, qa, xn, xc, qc, k, d, n, hblk, hcase⟩ := hn hk; rw [HQ.out] at hblk; have HB := Lib.hid hb; have HK := Lib.hid hblk; have HC : Hid (xe.iop = []) := Lib.hid (hcase.elim (fun h => h.1) (fun h => absurd h.1 (by have := HP.out; omega))); clear hb hblk hcase hn)
        have HL2 := Lib.hid (HB.out.alloc HB.out.size (.cells #[.int .i64 4, .slice ra l.length rc, .string ⟨#[]⟩, .slice va 0 vc, .bool false] 29))
        have HI := Lib.hid (Blk.new w1 29 #[.int .i64 4, .slice ra l.length rc, .string ⟨#[]⟩, .slice va 0 vc, .bool false])
        have HK2 := Lib.hid (HK.out.alloc (.cells #[.int .i64 4, .slice ra l.length rc, .string ⟨#[]⟩, .slice va 0 vc, .bool false] 29))
        generalize w1.alloc (.cells #[.int .i64 4, .slice ra l.length rc, .string ⟨#[]⟩, .slice va 0 vc, .bool false] 29) = W at *
        generalize w1.heap.size = tb at *
        obtain ⟨⟨c0, c1, c2, c3, c4⟩, _⟩ := HI.out.five
        have g5 : W.cell? ⟨g, 5, none⟩ = some (.string ⟨#[]⟩) := by
          have h : W.cell? ⟨g, 5, none⟩ = some (.string ⟨xe.iop.toArray⟩) := HK2.out.cell 5
          rw [HC.out] at h; exact h
        have g2 : W.cell? ⟨g, 2, none⟩ = some (.slice qa 2 qc) := HK2.out.cell 2
        go_wp2
        go_ret
        exact ⟨rfl, HL2.out⟩
      · rw [hq2] at HNEED
        rw [HNEED.out]
        clear hq2 HPP
        obtain ⟨K, hK⟩ : ∃ K, (prefF (pgB l : Int)).length = K := ⟨_, rfl⟩
        rw [hK] at hq1 ⊢
        have HQ := Lib.hid hK
        clear hK
        have hK1 : ¬ (1 : Int) < (K : Int) := by omega
        have hKw : IntKind.i64.wrap ((K : Int) + 1) = ((K + 1 : Nat) : Int) := by rw [IntKind.wrap_i64]; omega
        clear hq1
        go_enter Tryz.func16, Tryz.ntmps16
        go_upto_region 2 with (go_at_call 52; refine (HRD.out).mono ?_; rintro e w1 ⟨⟨g, v, rfl, hi, hn⟩, hb⟩; obtain ⟨ra, rc, va, vc, hv, _, _⟩ := hi; rw [h4] at hv; unfold itmV at hv; rw [HTK.out] at hv; dsimp only at hv; subst hv; obtain ⟨xe, xa, qa, xn, xc, qc, k, d, n, hblk, hcase⟩ := hn hk; rw [HQ.out] at hblk; have HB := Lib.hid hb; have HK := Lib.hid hblk; have HC : Hid (xe.iop = []) := Lib.hid (hcase.elim (fun h => h.1) (fun h => absurd h.1 (by have := HP.out; omega))); clear hb hblk hcase hn)
        have HL2 := Lib.hid (HB.out.alloc HB.out.size (.cells #[.int .i64 4, .slice ra l.length rc, .string ⟨#[]⟩, .slice va 0 vc, .bool false] 29))
        have HI := Lib.hid (Blk.new w1 29 #[.int .i64 4, .slice ra l.length rc, .string ⟨#[]⟩, .slice va 0 vc, .bool false])
        have HK2 := Lib.hid (HK.out.alloc (.cells #[.int .i64 4, .slice ra l.length rc, .string ⟨#[]⟩, .slice va 0 vc, .bool false] 29))
        generalize w1.alloc (.cells #[.int .i64 4, .slice ra l.length rc, .string ⟨#[]⟩, .slice va 0 vc, .bool false] 29) = W at *
        generalize w1.heap.size = tb at *
        obtain ⟨⟨c0, c1, c2, c3, c4⟩, _⟩ := HI.out.five
        have g5 : W.cell? ⟨g, 5, none⟩ = some (.string ⟨#[]⟩) := by
          have h : W.cell? ⟨g, 5, none⟩ = some (.string ⟨xe.iop.toArray⟩) := HK2.out.cell 5
          rw [HC.out] at h; exact h
        have g2 : W.cell? ⟨g, 2, none⟩ = some (.slice qa K qc) := HK2.out.cell 2
        go_wp2
        go_ret
        exact ⟨rfl, HL2.out⟩
    · rw [if_neg hp] at HNEED
      have HP := Lib.hid hp
      cases hat : (atF (pgB l) (bAt l (pos (pgB l)))).1 with
      | none =>
        exfalso
        have h5 := hk
        unfold itF itS at h5
        rw [if_neg hp] at h5
        cases ha : atF (pgB l) (bAt l (pos (pgB l))) with
        | mk o k =>
          rw [ha] at hat h5
          have hat : o = none := hat
          subst hat
          dsimp only at h5
          split at h5
          · exact absurd h5 (by show ¬ (2 : Int) = 4; decide)
          · exact absurd h5 (by show ¬ (3 : Int) = 4; decide)
      | some ev =>
        rw [hat] at HNEED
        dsimp only at HNEED
        have HAT := Lib.hid hat
        have HOK := Lib.hid (ent_at (bAt_lt l (pos (pgB l))) hat)
        have HEW := Lib.hid (entW_at h7 (bAt_lt l (pos (pgB l))) hat).1
        have HCN : Hid (Lib.countByte ev.ex 119 ≤ 1000) := Lib.hid (by have h1 := HEW.out.len; have h2 : Lib.countByte ev.ex 119 ≤ ev.ex.length := List.count_le_length; omega)
        have HSZ := Lib.hid (fun v W h => Size_any ev v W h (by have := HEW.out.len; omega) HCN.out)
        have hR : ((prefF ev.pg).length : Int) + 1 + (ev.ex.length : Int) + (Lib.countByte ev.ex 119 : Int) = (needF l : Int) := by
          rw [HNEED.out]; unfold sizF
          have := rdN_count ev.ex
          push_cast
          omega
        rw [hR] at HSZ
        have HNE : Hid ((⟨ev.iop.toArray⟩ : ByteArray) ≠ ⟨#[]⟩) := Lib.hid HOK.out.ne
        clear hp hpre hat hR HEW HOK HNEED HCN
        generalize needF l = NL at *
        go_enter Tryz.func16, Tryz.ntmps16
        go_upto_region 2 with (go_at_call 52; refine (HRD.out).mono ?_; rintro e w1 ⟨⟨g, v, rfl, hi, hn⟩, hb⟩; obtain ⟨ra, rc, va, vc, hv, _, _⟩ := hi; rw [h4] at hv; unfold itmV at hv; rw [HTK.out] at hv; dsimp only at hv; subst hv; obtain ⟨xe, xa, qa, xn, xc, qc, k, d, n, hblk, hcase⟩ := hn hk; have HB := Lib.hid hb; have hxe := (hcase.resolve_left (fun h => HP.out h.2)).2; rw [HAT.out] at hxe; injection hxe with hxe; subst hxe; have HK := Lib.hid hblk; clear hb hblk hcase hn)
        have HL2 := Lib.hid (HB.out.alloc HB.out.size (.cells #[.int .i64 4, .slice ra l.length rc, .string ⟨#[]⟩, .slice va 0 vc, .bool false] 29))
        have HI := Lib.hid (Blk.new w1 29 #[.int .i64 4, .slice ra l.length rc, .string ⟨#[]⟩, .slice va 0 vc, .bool false])
        have HK2 := Lib.hid (HK.out.alloc (.cells #[.int .i64 4, .slice ra l.length rc, .string ⟨#[]⟩, .slice va 0 vc, .bool false] 29))
        have HSZ2 := Lib.hid (HSZ.out (.slice xa xn xc) (w1.alloc (.cells #[.int .i64 4, .slice ra l.length rc, .string ⟨#[]⟩, .slice va 0 vc, .bool false] 29)) ⟨xa, xn, xc, rfl⟩)
        generalize w1.alloc (.cells #[.int .i64 4, .slice ra l.length rc, .string ⟨#[]⟩, .slice va 0 vc, .bool false] 29) = W at *
        generalize w1.heap.size = tb at *
        obtain ⟨⟨c0, c1, c2, c3, c4⟩, _⟩ := HI.out.five
        have HKB : Hid (Blk W g tDec #[.slice a l.length c, .int .i64 k, .slice qa (prefF (pgB l)).length qc, .int .i64 ev.pg, .int .u8 ev.op, .string ⟨ev.iop.toArray⟩, .slice xa xn xc, .string ⟨ev.ex.toArray⟩, .bool ev.al, .int .i64 d, .int .i64 n]) := Lib.hid HK2.out
        have g3 := HKB.out.cell 3
        have g4 := HKB.out.cell 4
        have g5 := HKB.out.cell 5
        have g6 := HKB.out.cell 6
        have g7 := HKB.out.cell 7
        have g8 := HKB.out.cell 8
        unfold entVal at HSZ2
        clear HSZ HK2 HK HAT
        obtain ⟨p1, o1, i1, l1, s1, f1⟩ := ev
        dsimp only at g3 g4 g5 g6 g7 g8 HSZ2 HNE
        generalize (⟨i1.toArray⟩ : ByteArray) = O at *
        generalize (⟨s1.toArray⟩ : ByteArray) = X at *
        have hO : O.toList.isEmpty = false := by
          cases hE : O.toList with
          | nil => exact absurd (toList_inj (hE.trans (by simp))) HNE.out
          | cons _ _ => rfl
        go_wp2_with (go_at_call 53; refine HSZ2.out.mono ?_; rintro e w3 ⟨rfl, hb3⟩; have HB3 := Lib.hid (HL2.out.trans (hb3.mono HL2.out.size)); clear hb3)
        go_ret
        exact ⟨rfl, HB3.out⟩
  · have HN : Hid (needF l = (l.take (itF l).n).length) := Lib.hid (by unfold needF; rw [if_neg hk])
    rw [HN.out]
    clear HN
    obtain ⟨R1, hR1⟩ : ∃ R, R = l.take (itF l).n := ⟨_, rfl⟩
    rw [← hR1]
    have HR1 := Lib.hid hR1
    clear hR1
    obtain ⟨IT, hIT⟩ : ∃ IT, itF l = IT := ⟨_, rfl⟩
    rw [hIT] at HR1 hk
    have HIT := Lib.hid hIT
    clear hIT
    go_enter Tryz.func16, Tryz.ntmps16
    go_upto_region 2 with (go_at_call 52; refine (HRD.out).mono ?_; rintro e w1 ⟨⟨g, v, rfl, hi, hn⟩, hb⟩; obtain ⟨ra, rc, va, vc, hv, _, _⟩ := hi; rw [HIT.out] at hv; unfold itmV at hv; rw [← HR1.out] at hv; subst hv; have HB := Lib.hid hb; clear hb hn)
    have HL2 := Lib.hid (HB.out.alloc HB.out.size (.cells #[.int .i64 IT.k, .slice ra R1.length rc, .string ⟨IT.op.toArray⟩, .slice va IT.args.length vc, .bool IT.al] 29))
    have HI := Lib.hid (Blk.new w1 29 #[.int .i64 IT.k, .slice ra R1.length rc, .string ⟨IT.op.toArray⟩, .slice va IT.args.length vc, .bool IT.al])
    generalize w1.alloc (.cells #[.int .i64 IT.k, .slice ra R1.length rc, .string ⟨IT.op.toArray⟩, .slice va IT.args.length vc, .bool IT.al] 29) = W at *
    generalize w1.heap.size = tb at *
    obtain ⟨⟨c0, c1, c2, c3, c4⟩, _⟩ := HI.out.five
    go_wp2
    go_ret
    exact ⟨rfl, HL2.out⟩
end Go.Proofs.YtnbmbcjnncbaiaaGreatDoor
