/-
  hexread's reader: line. Conditions: the line's size; the library's table as its initialiser lays it.
-/
import Derived.Test.YtcfjcoockklkeaaGreatDoorV16
namespace Go.Proofs.YtcfjcoockklkeaaGreatDoor
open Go.RowKit

def KeptRd (w w' : World) (ib rb : Nat) : Prop := w.heap.size ≤ w'.heap.size ∧ ∀ k, k < w.heap.size → k ≠ ib → k ≠ rb → w'.heap[k]? = w.heap[k]?
theorem KeptRd.below {w w' : World} {ib rb : Nat} (h : Below w.heap.size w w') : KeptRd w w' ib rb := ⟨h.size, fun k hk _ _ => h.block k hk⟩
theorem KeptRd.img {w w1 w2 : World} {ib rb : Nat} (h : Below w.heap.size w w1) (hg : w1.grownBy w2 (some ib)) : KeptRd w w2 ib rb :=
  ⟨Nat.le_trans h.size hg.size, fun k hk hi _ => (hg.block k (Nat.lt_of_lt_of_le hk h.size) (fun e => by injection e with e; exact hi e)).trans (h.block k hk)⟩
theorem KeptRd.rd {w w1 w2 : World} {ib rb : Nat} (h : Below w.heap.size w w1) (hg : w1.grownBy w2 (some rb)) : KeptRd w w2 ib rb :=
  ⟨Nat.le_trans h.size hg.size, fun k hk _ hr => (hg.block k (Nat.lt_of_lt_of_le hk h.size) (fun e => by injection e with e; exact hr e)).trans (h.block k hk)⟩
/-- what a line leaves -/
def LineP (w0 w : World) (rb ib n : Nat) (st : ImgS × Bool) (x : List UInt8) (e : Ending) (w' : World) : Prop :=
  e = .returned (.int .i64 ((stepH st x).1 : Nat)) ∧ (∃ n', n' ≤ n + 255 ∧ RdS w0 w' rb ib (stepH st x).2.1 (stepH st x).2.2 n') ∧ KeptRd w w' ib rb
theorem Parse_at (s : ByteArray) (l : List UInt8) (w : World) (hl : s.data.toList = l) (hs : s.size ≤ 1000000000) :
    Calls Tryz.prog 46 #[.string s] w fun e w' => ∃ sa sc, e = .returned (.tuple #[.agg #[.int .i64 (parseH l).2.t, .int .i64 (parseH l).2.a, .slice sa (parseH l).2.l.length sc], .int .i64 (parseH l).1]) ∧ SlR byteR w' (fun k => w.heap.size ≤ k) (.slice sa (parseH l).2.l.length sc) (parseH l).2.l ∧ Below w.heap.size w w' := by
  subst hl
  refine (Parse_any s w hs).mono fun e w' ⟨r, c, v, h1, h2, h3, h4⟩ => ?_
  rw [h1]
  obtain ⟨sa, sc, rfl, _⟩ := h3.byte
  exact ⟨sa, sc, h2, h3, h4⟩
set_option maxHeartbeats 2000000 in
set_option maxRecDepth 100000 in
theorem line_rest (w0 : World) (rb ib n : Nat) (S : ImgS) (en : Bool) (s : ByteArray) (w : World) (h : RdS w0 w rb ib S en n) (hs : s.size ≤ 1000000000)
    (hc : blankL (trimCR s.data.toList) = true ∨ en = true ∨ (parseH (trimCR s.data.toList)).1 ≠ 0 ∨ 2 ≤ (parseH (trimCR s.data.toList)).2.t) :
    Calls Tryz.prog 21 #[.pointer (some ⟨rb, 0, none⟩), .string s] w (LineP w0 w rb ib n (S, en) s.data.toList) := by
  have HR := Lib.hid h
  have HTS := Lib.hid (fun W => TrimSuf13 s W (by omega))
  have htl := trimCR_len s.data.toList
  have hsl : s.data.toList.length = s.size := by simp
  generalize s.data.toList = x at *
  obtain ⟨ln, hln⟩ : ∃ ln : ByteArray, ln = ⟨(trimCR x).toArray⟩ := ⟨_, rfl⟩
  rw [← hln] at HTS
  have hld : ln.data.toList = trimCR x := by rw [hln]
  have hlsz : ln.size ≤ 1000000000 := by
    have : ln.data.toList.length = ln.size := by simp
    rw [hld] at this
    omega
  have HTY := Lib.hid (fun W (hb : blankL (trimCR x) = true) => Trim_yes ln W (by omega) (by rw [hld]; exact hb))
  have HTN := Lib.hid (fun W (hb : blankL (trimCR x) = false) => Trim_no ln W (by omega) (by rw [hld]; exact hb))
  have HPA := Lib.hid (fun W => Parse_at ln (trimCR x) W hld hlsz)
  have hbd := parse_bd (l := trimCR x)
  have HSTP : Hid (stepH (S, en) x = if blankL (trimCR x) then (0, (S, en)) else if en then (9, (S, en)) else if (parseH (trimCR x)).1 ≠ 0 then ((parseH (trimCR x)).1, (S, en)) else recH (S, en) (parseH (trimCR x)).2) := Lib.hid rfl
  have hfin : ∀ c, stepH (S, en) x = (c, (S, en)) → ∀ w', Below w.heap.size w w' → LineP w0 w rb ib n (S, en) x (.returned (.int .i64 (c : Nat))) w' := fun c hcc w' hb => by
    refine ⟨by rw [hcc], ⟨n, by omega, ?_⟩, KeptRd.below hb⟩
    rw [hcc]
    exact h.later hb
  have HFIN := Lib.hid hfin
  obtain ⟨d0, d1, _, _⟩ := h.blk.two
  have HLT : Hid (rb < w.heap.size) := h.blk.lt
  clear hln hld hlsz htl hs hsl h hfin
  generalize blankL (trimCR x) = bl at *
  generalize parseH (trimCR x) = pr at *
  obtain ⟨pc, r⟩ := pr
  cases bl with
  | true =>
    have GTY := Lib.hid (fun W => HTY.out W rfl)
    clear HTY HTN hc
    go_enter Tryz.func21, Tryz.ntmps21
    go_wp2_with (first
      | (go_at_call 44; refine (HTS.out _).mono ?_; rintro e w2 ⟨rfl, rfl⟩)
      | (go_at_call 45; refine (GTY.out _).mono ?_; rintro e w3 ⟨rfl, hb⟩; have HB3 := Lib.hid hb; clear hb))
    go_ret
    exact HFIN.out 0 (by rw [HSTP.out]; rfl) _ HB3.out
  | false =>
    have GTN := Lib.hid (fun W => HTN.out W rfl)
    clear HTY HTN
    cases en with
    | true =>
      clear hc
      go_enter Tryz.func21, Tryz.ntmps21
      go_wp2_with (first
        | (go_at_call 44; refine (HTS.out _).mono ?_; rintro e w2 ⟨rfl, rfl⟩)
        | (go_at_call 45; refine (GTN.out _).mono ?_; rintro e w3 ⟨tt, htt, rfl, hb⟩; have HB3 := Lib.hid hb; have d1' := (hb.cell (p := ⟨rb, 1, none⟩) HLT.out).trans d1; clear hb))
      go_ret
      exact HFIN.out 9 (by rw [HSTP.out]; rfl) _ HB3.out
    | false =>
      by_cases hpc : pc = 0
      · subst hpc
        have ht : 2 ≤ r.t := by
          rcases hc with h | h | h | h
          · cases h
          · cases h
          · exact absurd rfl h
          · exact h
        have ht2 : (2 : Int) ≤ (r.t : Int) := by omega
        have HRH : Hid (recH (S, false) r = (7, (S, false))) := by show _ = _; unfold recH; rw [if_neg (by omega), if_neg (by omega)]
        have hmf : ∀ (fn : Fn) (first cap : Array Value) (w : World), (Instr.makeFunc fn first cap).run Tryz.prog w = .ok (.func fn first cap) w := fun _ _ _ _ => rfl
        clear hc ht
        go_enter Tryz.func21, Tryz.ntmps21
        go_wp2_with (first
          | (go_at_call 44; refine (HTS.out _).mono ?_; rintro e w2 ⟨rfl, rfl⟩)
          | (go_at_call 45; refine (GTN.out _).mono ?_; rintro e w3 ⟨tt, htt, rfl, hb⟩; have HB3 := Lib.hid hb; have d1' := (hb.cell (p := ⟨rb, 1, none⟩) HLT.out).trans d1; clear hb)
          | (go_at_call 46; refine (HPA.out _).mono ?_; rintro e w4 ⟨sa, sc, rfl, _, hb⟩; have HB4 := Lib.hid (HB3.out.trans (hb.mono HB3.out.size)); clear hb))
        go_ret
        exact HFIN.out 7 (by rw [HSTP.out]; exact HRH.out) _ ((HB4.out.alloc HB4.out.size _).alloc (by rw [World.size_alloc]; exact Nat.le_succ_of_le HB4.out.size) _)
      · have hne : ((pc : Int) != 0) = true := by rw [bne_iff_ne]; omega
        have HPC := Lib.hid hpc
        clear hc hpc
        go_enter Tryz.func21, Tryz.ntmps21
        go_wp2_with (first
          | (go_at_call 44; refine (HTS.out _).mono ?_; rintro e w2 ⟨rfl, rfl⟩)
          | (go_at_call 45; refine (GTN.out _).mono ?_; rintro e w3 ⟨tt, htt, rfl, hb⟩; have HB3 := Lib.hid hb; have d1' := (hb.cell (p := ⟨rb, 1, none⟩) HLT.out).trans d1; clear hb)
          | (go_at_call 46; refine (HPA.out _).mono ?_; rintro e w4 ⟨sa, sc, rfl, _, hb⟩; have HB4 := Lib.hid (HB3.out.trans (hb.mono HB3.out.size)); clear hb))
        go_ret
        exact HFIN.out pc (by rw [HSTP.out]; have := HPC.out; simp [this]) _ (HB4.out.alloc HB4.out.size _)
end Go.Proofs.YtcfjcoockklkeaaGreatDoor
