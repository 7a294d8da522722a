/-
  breadboardlaw02.Same: an image against cells. Conditions: the runs are apart; the library's table as its initialiser lays it.
-/
import Derived.Test.YtcfjcoockklkeaaGreatDoorV10
namespace Go.Proofs.YtcfjcoockklkeaaGreatDoor
open Go.RowKit

theorem ref_at {w : World} {p : Blocks} {a : Option Addr} {n c : Nat} {l : List (Nat × List UInt8)} (h : SlR runR w p (.slice a n c) l) {k : Nat} {r : Nat × List UInt8} (hr : l[k]? = some r) : ∃ b o sa sc, a = some ⟨b, o, none⟩ ∧ w.cell? ⟨b, o + k * 2, none⟩ = some (.int .i64 r.1) ∧ w.cell? ⟨b, o + k * 2 + 1, none⟩ = some (.slice sa r.2.length sc) ∧ SlR byteR w p (.slice sa r.2.length sc) r.2 := by
  obtain ⟨a', c', hv, _, _, g⟩ := h.run
  obtain ⟨b, o, sa, sc, ha, _, h1, h2, h3⟩ := g k r hr
  injection hv with hv _ _
  exact ⟨b, o, sa, sc, hv.trans ha, h1, h2, h3⟩
set_option maxHeartbeats 4000000 in
set_option maxRecDepth 100000 in
/-- an image shows its own cells -/
theorem Same2_any (ib : Nat) (S : ImgS) (p : Blocks) (cv : Value) (w : World) (hi : ImgC w ib S.1 S.2 (cellsOf S.1 S.2).length) (hc : SlR cellR w p cv (cellsOf S.1 S.2)) (hT : Deb w) :
    Calls Tryz.prog 11 #[.pointer (some ⟨ib, 0, none⟩), cv] w fun e w' => e = .returned (.int .i64 1) ∧ Below w.heap.size w w' := by
  have HX := Lib.hid (RunsV_any _ (runsOf S.1 S.2) w (.inr ⟨ib, _, _, _, rfl, hi, rfl⟩) hT)
  have HY := Lib.hid (fun W (hb : Below w.heap.size w W) => Runs02_any p cv (cellsOf S.1 S.2) W (hc.below hb) (Nat.le_trans (cellsOf_len _ _) (by omega)) cells_low)
  rw [runs02_of] at HY
  have hrl := runs_len S.1 S.2
  have HI := Lib.hid hi
  obtain ⟨ca, cc, rfl, _⟩ := hc.cel
  clear hi hc hT
  generalize (cellsOf S.1 S.2).length = cn at *
  generalize runsOf S.1 S.2 = R at *
  have hrl1 : (R.length : Int) ≤ 65536 := by omega
  go_enter Tryz.func11, Tryz.ntmps11
  go_wp2_with (first
    | (go_at_call 28; refine HX.out.mono ?_; rintro e w1 ⟨v1, rfl, ho, hb⟩; have HB1 := Lib.hid hb; have HO1 := Lib.hid ho; obtain ⟨a1, c1, rfl⟩ := ho.form; clear ho hb)
    | (go_at_call 29; refine (HY.out _ HB1.out).mono ?_; rintro e w2 ⟨v2, raws, rfl, hrn, hb⟩; have HB2 := Lib.hid (HB1.out.trans (hb.mono HB1.out.size)); have HO2 := Lib.hid (HO1.out.stay hb).slR; obtain ⟨a2, c2, rfl, g⟩ := hrn.at; have G := Lib.hid g; have HI2 := Lib.hid (HI.out.below (HB1.out.trans (hb.mono HB1.out.size)) HI.out.lt); clear hrn hb g)
    | (go_at_call 30; refine (Len_any _ _ _ _ _ HI2.out).mono ?_; rintro e w3 ⟨rfl, rfl⟩))
  go_loopw [27] (fun i wr => ∃ k : Nat, k ≤ R.length ∧ i = .int .i64 k ∧ Below w2.heap.size w2 wr) (fun i _ => R.length - (intOf i).toNat)
  case atStart => exact ⟨0, Nat.zero_le _, rfl, Below.refl _ _⟩
  case round =>
    obtain ⟨k, hk, rfl, hb⟩ := hrel
    have HB := Lib.hid hb
    have HBW := Lib.hid (HB2.out.trans (hb.mono HB2.out.size))
    clear hb
    by_cases hlt : k < R.length
    · obtain ⟨b1, o1, sa1, sc1, rfl, d0, d1, s1⟩ := ref_at (HO2.out.old.below HB.out) (List.getElem?_eq_getElem hlt)
      obtain ⟨b2, o2, sa2, sc2, rfl, hg2, t0, t1, s2⟩ := G.out k R[k] (List.getElem?_eq_getElem hlt)
      have f0 := (HB.out.cell (p := ⟨b2, o2 + k * 2, none⟩) hg2).trans t0
      have f1 := (HB.out.cell (p := ⟨b2, o2 + k * 2 + 1, none⟩) hg2).trans t1
      have s2' := s2.old.below HB.out
      generalize R[k] = r at *
      obtain ⟨ra, rl⟩ := r
      have hblt : b2 < wr.heap.size := Nat.lt_of_lt_of_le hg2 HB.out.size
      have HEQ := Lib.hid (fun n => EqualByte_any _ _ _ _ rl rl ((wr.alloc (.cells #[.int .i64 (ra : Int), .slice sa1 rl.length sc1] 68)).drewN n) ((s1.alloc (.cells #[.int .i64 (ra : Int), .slice sa1 rl.length sc1] 68)).drewN n) ((s2'.alloc (.cells #[.int .i64 (ra : Int), .slice sa1 rl.length sc1] 68)).drewN n))
      rw [decide_eq_true rfl] at HEQ
      have HAL : Hid (Below wr.heap.size wr (wr.alloc (.cells #[.int .i64 (ra : Int), .slice sa1 rl.length sc1] 68))) := (Below.refl _ wr).alloc (Nat.le_refl _) _
      have q0 : (wr.alloc (.cells #[.int .i64 (ra : Int), .slice sa1 rl.length sc1] 68)).cell? ⟨b2, o2 + k * 2, none⟩ = some (.int .i64 (ra : Int)) := (World.cell?_alloc_old _ _ _ (Nat.ne_of_lt hblt)).trans f0
      have q1 : (wr.alloc (.cells #[.int .i64 (ra : Int), .slice sa1 rl.length sc1] 68)).cell? ⟨b2, o2 + k * 2 + 1, none⟩ = some (.slice sa2 rl.length sc2) := (World.cell?_alloc_old _ _ _ (Nat.ne_of_lt hblt)).trans f1
      have hk0 : (0 : Int) ≤ (k : Int) := by omega
      have hk1 : (k : Int) < (R.length : Int) := by omega
      clear s1 s2 s2' t0 t1 f0 f1 hg2 hblt
      go_upto_region 7 with fail
      go_quiet ((go_at_call 31; exact Calls.quiet_of (HEQ.out _)))
      go_wp2
      go_roundw
      case rel => exact ⟨k + 1, by omega, by go_num, (HB.out.trans (HAL.out.mono HB.out.size)).trans (below_drewN _ _ _)⟩
      case measure => simp [intOf]; omega
    · go_wp2
      go_ret
      exact ⟨rfl, HBW.out⟩
end Go.Proofs.YtcfjcoockklkeaaGreatDoor
