/-
  slices.Chunk of bytes: its iterator. Conditions: sizes.
-/
import Derived.Test.YtcfjcoockklkeaaDoorR1
import Derived.Sort.QuietTacIn
namespace Go.Proofs.YtcfjcoockklkeaaDoor
open Go.RowKit
attribute [local go_sem] Oper.semAt_some

/-- where the parts begin -/
def starts (n len : Nat) : List Nat := (List.range ((len + n - 1) / n)).map (· * n)
def encC (b o n len : Nat) (i : Nat) : Array Value := #[.slice (some ⟨b, o + i, none⟩) (min n (len - i)) (min n (len - i))]
set_option maxHeartbeats 1000000 in
theorem chunk_seq (F : Fence) (m : Nat) (hF : F.fn 156) (hro : F.round = none) (hm : 1 ≤ m) (bS bN b o n len cap : Nat) (w : World)
    (hS : Blk w bS 44 #[.slice (some ⟨b, o, none⟩) len cap]) (hN : Blk w bN 3 #[.int .i64 n]) (hn : 1 ≤ n) (hn2 : n ≤ 1000) (hl : len ≤ 1000000) (hcap : len ≤ cap) (hcap2 : cap ≤ 9223372036854775807) (hl0 : 0 < len) :
    MemSeq F m Tryd.prog 156 #[.pointer (some ⟨bS, 0, none⟩), .pointer (some ⟨bN, 0, none⟩)] (encC b o n len) (Tk fun k _ => k = bS ∨ k = bN) (fun pre i _ => pre = (List.range pre.length).map (· * n) ∧ i = pre.length * n ∧ i < len) (fun xs => xs = starts n len) w := by
  intro l J W hW hJ hY h0
  have hS' := hS.below hW hS.lt
  have hN' := hN.below hW hN.lt
  refine callsIn_of_wp Tryd.func156 rfl hF ?_ hro
  simp only [Tryd.ntmps156, List.size_toArray, List.length_cons, List.length_nil, Nat.reduceAdd, Nat.reduceSub, Array.replicate_succ, Array.replicate_zero, List.push_toArray, List.append_toArray, List.nil_append, List.cons_append]
  have H := Lib.hid hY
  have HJ := Lib.hid hJ
  have H0 := Lib.hid h0
  have HS := Lib.hid hS'
  have HN := Lib.hid hN'
  clear hY h0 hS hN hS' hN' hJ hW
  gi_wp2
  gi_loopw [4] (fun i wr => ∃ k : Nat, i = .int .i64 ((k * n : Nat) : Int) ∧ k * n < len + n ∧ Blk wr bS 44 #[.slice (some ⟨b, o, none⟩) len cap] ∧ Blk wr bN 3 #[.int .i64 n] ∧ J ((List.range k).map (· * n)) wr)
    (fun i _ => len + n - (intOf i).toNat)
  case atStart => exact ⟨0, by simp, by omega, HS.out, HN.out, H0.out⟩
  case round =>
    obtain ⟨k, rfl, hk, hs, hnn, hj⟩ := hrel
    have c1 := hs.cell 0
    have c2 := hnn.cell 0
    generalize hkn : k * n = i at *
    by_cases hlt : i < len
    · have hi0 : (0 : Int) ≤ (i : Int) := by omega
      have hi1 : (i : Int) < (len : Int) := by omega
      have hn0 : (0 : Int) ≤ (n : Int) := by omega
      have hile : i ≤ len := by omega
      have hce : ¬ (cap = i) := by omega
      have hn9 : (n : Int) ≤ 1000 := by omega
      have hl9 : (len : Int) ≤ 1000000 := by omega
      have hm1 : min n (len - i) ≤ n := Nat.min_le_left _ _
      have hm2 : min n (len - i) ≤ len - i := Nat.min_le_right _ _
      have HM0 : Hid (1 ≤ min n (len - i)) := by show _ ≤ _; omega
      have HMI : Hid (min (n : Int) ((len - i : Nat) : Int) = ((min n (len - i) : Nat) : Int)) := by show _ = _; omega
      have HSW := Lib.hid hs
      have HNW := Lib.hid hnn
      have HKN := Lib.hid hkn
      have HJW := Lib.hid hj
      clear hs hnn hkn hj
      gi_wp2
      refine wpIn_region_quiet_lit hro (by kernel_rfl) (by kernel_rfl) ?_
      repeat (quiet_step_in (fail))
      refine wpQuietIn_nil ?_
      intro _ hw'
      obtain ⟨nq, hw''⟩ := hw'
      subst hw''
      rw [HMI.out]
      obtain ⟨fn, tmps, assign, body, hy, hR⟩ := H.out ((List.range k).map (· * n)) i (wr.drewN nq) (HJ.out _ _ _ HJW.out (below_dN (Below.refl _ _) nq)) ⟨by simp, by simp [HKN.out], hlt⟩
      dsimp only [encC] at hy
      have HR := Lib.hid hR
      clear hR
      generalize min n (len - i) = q at *
      have hq0 : (0 : Int) ≤ (q : Int) := by omega
      have hq1 : (i : Int) + (q : Int) ≤ (len : Int) := by omega
      have hq9 : (1 : Int) ≤ (q : Int) := by have := HM0.out; omega
      clear hm1 hm2
      gi_wp2
      refine HR.out.mono ?_
      rintro e W' ⟨rfl, hj2, hT⟩
      have hs2 : Blk W' bS 44 #[.slice (some ⟨b, o, none⟩) len cap] := hT.blk (HSW.out.below (below_dN (Below.refl wr.heap.size _) nq) HSW.out.lt) (.inl rfl)
      have hn2' : Blk W' bN 3 #[.int .i64 n] := hT.blk (HNW.out.below (below_dN (Below.refl wr.heap.size _) nq) HNW.out.lt) (.inr rfl)
      have c3 := hn2'.cell 0
      have HS2 := Lib.hid hs2
      have HN2 := Lib.hid hn2'
      have HJ2 := Lib.hid hj2
      clear hs2 hn2' hj2 hT c1 c2 hy
      gi_wp2
      go_roundw
      case rel => exact ⟨k + 1, by rw [Nat.succ_mul, HKN.out]; go_num, by rw [Nat.succ_mul, HKN.out]; omega, HS2.out, HN2.out, by rw [List.range_succ, List.map_append, List.map_singleton, HKN.out]; exact HJ2.out⟩
      case measure => simp [intOf]; omega
    · have HKE : Hid ((len + n - 1) / n = k) := Nat.div_eq_of_lt_le (by rw [hkn]; omega) (by rw [Nat.succ_mul, hkn]; omega)
      have HJW := Lib.hid hj
      clear hj hkn
      gi_wp2
      go_end0
      exact ⟨⟨_, rfl⟩, _, rfl, by unfold starts; rw [HKE.out]; exact HJW.out⟩
end Go.Proofs.YtcfjcoockklkeaaDoor
