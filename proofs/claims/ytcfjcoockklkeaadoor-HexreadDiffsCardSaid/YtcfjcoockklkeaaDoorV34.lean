/-
  slices.Sort at ints of the call's own; hexread.Diff. Conditions: the library's table as its initialiser lays it.
-/
import Derived.Test.YtcfjcoockklkeaaDoorV33
import Derived.Sort.OwnSortedInts
import Derived.Test.YtcfjcoockklkeaaDoorSort
namespace Go.Proofs.YtcfjcoockklkeaaDoor
open Go.RowKit Go.Sort

theorem els_int {w : World} {p : Blocks} : ∀ {xs : List Int} {cs : List Value}, Els intR w p cs xs ↔ cs = xs.map (Value.int .i64)
  | [], cs => Iff.rfl
  | x :: xs, cs => by
    constructor
    · rintro ⟨c1, c2, rfl, h1, h2⟩
      have h1 : c1 = [.int .i64 x] := h1
      rw [h1, els_int.1 h2]
      rfl
    · rintro rfl
      exact ⟨[.int .i64 x], xs.map (Value.int .i64), rfl, rfl, els_int.2 rfl⟩
theorem Sort_any (v : Value) (xs : List Int) (B : Nat) (w : World) (h : Own intR w B 3 NoB v xs) (hl : xs.length ≤ 1000000) :
    Calls Tryd.prog 82 #[v] w fun e w' => e = .returned (.tuple #[]) ∧ Own intR w' B 3 NoB v (xs.mergeSort fun x y => decide (x ≤ y)) ∧ w.grownBy w' v.ownBlock := by
  have h0 := h
  obtain ⟨cs, hrow, hels⟩ := h
  rw [els_int] at hels
  subst hels
  rcases hrow.2 with ⟨rfl, hn⟩ | ⟨g, cap, cur, rfl, hb, hg, hnc, hcm, hcs, htake⟩
  · obtain rfl : xs = [] := List.eq_nil_of_length_eq_zero hn
    refine (Tryd.slices_Sort_int_none none 0 w).mono ?_
    rintro e w' ⟨rfl, rfl⟩
    exact ⟨rfl, by rw [List.mergeSort_nil]; exact Own.nil _ _ _ _ _, ⟨rfl, rfl, rfl, Nat.le_refl _, fun _ _ _ => rfl⟩⟩
  · have hts : cur.toList.take xs.length = xs.map (Value.int .i64) := by
      have := htake
      simpa [intR, Rep.flat] using this
    refine (Tryd.slices_Sort_int g 0 cap xs w (holds_of_blockI hg hts) (Array.getElem?_eq_some_iff.1 hg).1 (by omega)).mono ?_
    rintro e w' ⟨rfl, n, os, rfl⟩
    have hlen : (xs.mergeSort fun x y => decide (x ≤ y)).length = xs.length := List.length_mergeSort _
    refine ⟨rfl, ⟨_, ?_, els_int.2 rfl⟩, grownBy_sortedI _⟩
    have := ownsRow_sortedI (w := w) (n := n) (os := os) (base := B) hlen hb hg hnc hcm hcs
    rw [hlen]
    exact this

theorem Own.sl0 {α : Type} {R : Rep α} {w : World} {B : Nat} {e : TypeId} {v : Value} {xs : List α} (h : Own R w B e NoB v xs) : SlR R w (fun k => B ≤ k ∧ k < w.heap.size) v xs := (h.slR (q := fun k => B ≤ k) (fun _ h => h.elim) (fun _ h => h)).old
theorem ref_atp {w : World} {p : Blocks} {a : Option Addr} {n c : Nat} {l : List (Nat × List UInt8)} (h : SlR runR w p (.slice a n c) l) {k : Nat} {r : Nat × List UInt8} (hr : l[k]? = some r) : ∃ b o sa sc, a = some ⟨b, o, none⟩ ∧ p b ∧ w.cell? ⟨b, o + k * 2, none⟩ = some (.int .i64 r.1) ∧ w.cell? ⟨b, o + k * 2 + 1, none⟩ = some (.slice sa r.2.length sc) ∧ SlR byteR w p (.slice sa r.2.length sc) r.2 := by
  obtain ⟨a', c', hv, _, _, g⟩ := h.run
  obtain ⟨b, o, sa, sc, ha, hp, h1, h2, h3⟩ := g k r hr
  injection hv with hv _ _
  exact ⟨b, o, sa, sc, hv.trans ha, hp, h1, h2, h3⟩
theorem cellsR_take {R : List (Nat × List UInt8)} {k : Nat} (h : k < R.length) : cellsR (R.take (k + 1)) = cellsR (R.take k) ++ cellsF R[k].1 R[k].2 := by
  unfold cellsR
  rw [List.take_succ_eq_append_getElem h, List.flatMap_append]
  simp
theorem cellsR_take_len (S : ImgS) (k : Nat) : (cellsR ((runsOf S.1 S.2).take k)).length ≤ 65536 := by
  have h : cellsR (runsOf S.1 S.2) = cellsR ((runsOf S.1 S.2).take k) ++ cellsR ((runsOf S.1 S.2).drop k) := by
    unfold cellsR
    rw [← List.flatMap_append, List.take_append_drop]
  have h2 := cellsOf_len S.1 S.2
  rw [← runs_cells, h, List.length_append] at h2
  omega
theorem selF_difA (S T : ImgS) : selF T true (cellsOf S.1 S.2) ++ selF S false (cellsOf T.1 T.2) = (difA S T).map fun n : Nat => (n : Int) := by
  unfold selF difA
  rw [List.map_append, List.map_map, List.map_map]
  rfl
theorem DifI.fresh {w0 w1 w : World} {bO : Nat} {ys : List Int} (h : DifI w0 w1 bO ys w) : DifI w0 w bO ys w := ⟨h.out, h.below, Keep.refl _ _⟩
set_option maxHeartbeats 8000000 in
set_option maxRecDepth 100000 in
theorem Diff_any (m1 m2 : Option Addr) (S T : ImgS) (w : World) (h1 : ImgN w m1 S) (h2 : ImgN w m2 T) (hT : Deb w) :
    Calls Tryd.prog 41 #[.pointer m1, .pointer m2] w fun e w' => ∃ v', e = .returned v' ∧ SlR intR w' (fun k => w.heap.size ≤ k ∧ k < w'.heap.size) v' (difI S T) ∧ Below w.heap.size w w' := by
  have hal := (Below.refl w.heap.size w).alloc (Nat.le_refl _) (.cells #[.slice none 0 0] 67)
  have HI0 : Hid (DifI w (w.alloc (.cells #[.slice none 0 0] 67)) w.heap.size [] (w.alloc (.cells #[.slice none 0 0] 67))) := ⟨⟨_, Blk.new _ _ _, Own.nil _ _ _ _ _⟩, hal, Keep.refl _ _⟩
  have HX := Lib.hid (RunsV_any _ _ _ (h1.below hal).imgV (hT.below hal))
  have HY := Lib.hid (fun (W : World) (hb : Below w.heap.size w W) => RunsV_any _ _ W (h2.below hb).imgV (hT.below hb))
  have HS := Lib.hid h1
  have HT := Lib.hid h2
  have hmf : ∀ (fn : Fn) (first cap : Array Value) (w : World), (Instr.makeFunc fn first cap).run Tryd.prog w = .ok (.func fn first cap) w := fun _ _ _ _ => rfl
  have tok1 : True := trivial
  have HLS := Lib.hid (cellsR_take_len S)
  have HLT := Lib.hid (cellsR_take_len T)
  have HES := Lib.hid (runs_cells S.1 S.2)
  have HET := Lib.hid (runs_cells T.1 T.2)
  have HPS := Lib.hid (sep_le (runs_sep S.1 S.2))
  have HPT := Lib.hid (sep_le (runs_sep T.1 T.2))
  have hR1 := runs_len S.1 S.2
  have hR2 := runs_len T.1 T.2
  clear h1 h2 hT hal
  generalize runsOf S.1 S.2 = R at *
  generalize runsOf T.1 T.2 = Q at *
  have hR1i : (R.length : Int) ≤ 65536 := by omega
  have hR2i : (Q.length : Int) ≤ 65536 := by omega
  clear hR1 hR2
  go_enter Tryd.func41, Tryd.ntmps41
  go_wp2_with (go_at_call 47; have _t := tok1; with_reducible refine HX.out.mono ?_; rintro e w1 ⟨v1, rfl, ho, hb⟩; have HI1 := Lib.hid (HI0.out.later hb).fresh; have HO1 := Lib.hid (ho.slT.mono fun k hk => hk.2); obtain ⟨a1, c1, rfl⟩ := ho.form; clear ho hb tok1 _t)
  clear HI0 HX
  go_loopw [15] (fun i wr => ∃ k : Nat, k ≤ R.length ∧ i = .int .i64 k ∧ DifI w w1 w.heap.size (selF T true (cellsR (R.take k))) wr) (fun i _ => R.length - (intOf i).toNat)
  case atStart => exact ⟨0, Nat.zero_le _, rfl, HI1.out⟩
  case round =>
    clear HI1
    obtain ⟨k, hk, rfl, hi⟩ := hrel
    have HI := Lib.hid hi
    clear hi
    by_cases hlt : k < R.length
    · obtain ⟨b2, o2, sa, sc, rfl, hp, t0, t1, s1⟩ := ref_atp HO1.out (List.getElem?_eq_getElem hlt)
      have f0 := (World.cell?_of_block (w := w1) (HI.out.keep b2 hp) (a := ⟨b2, o2 + k * 2, none⟩)).trans t0
      have f1 := (World.cell?_of_block (w := w1) (HI.out.keep b2 hp) (a := ⟨b2, o2 + k * 2 + 1, none⟩)).trans t1
      have HTK := Lib.hid (cellsR_take hlt)
      have hse := (HPS.out R[k] (List.getElem_mem hlt)).1
      have hlen : (selF T true (cellsR (R.take k))).length ≤ 200000 := Nat.le_trans (selF_len _ _ _) (Nat.le_trans (HLS.out k) (by omega))
      generalize R[k] = r at *
      obtain ⟨ra, rl⟩ := r
      have hal := (Below.refl wr.heap.size wr).alloc (Nat.le_refl _) (.cells #[.int .i64 (ra : Int), .slice sa rl.length sc] 79)
      have HD := Lib.hid (Diff1_any w w1 w.heap.size m2 T ra sa rl sc true _ _ s1 HT.out hse (HI.out.later hal) (Nat.le_refl _) hlen)
      have HE : Hid (selF T true (cellsR (R.take (k + 1))) = selF T true (cellsR (R.take k)) ++ selF T true (cellsF ra rl)) := by show _ = _; rw [HTK.out, selF_app]
      clear t0 t1 s1 hp hse hal hlen HTK
      go_wp2_with (go_at_call 80; refine HD.out.mono ?_; rintro e w3 ⟨rfl, hi⟩; have HI3 := Lib.hid hi; clear hi)
      go_roundw
      case rel => exact ⟨k + 1, by omega, by go_num, by rw [HE.out]; exact HI3.out⟩
      case measure => simp [intOf]; omega
    · obtain rfl : k = R.length := by omega
      have HIE : Hid (DifI w w1 w.heap.size (selF T true (cellsOf S.1 S.2)) wr) := by have := HI.out; rw [List.take_length, HES.out] at this; exact this
      clear HI
      have HY2 := Lib.hid (HY.out wr HIE.out.below)
      have hls : (cellsOf S.1 S.2).length ≤ 65536 := cellsOf_len _ _
      have hly := selF_len T true (cellsOf S.1 S.2)
      have HLY : Hid ((selF T true (cellsOf S.1 S.2)).length ≤ 65536) := Nat.le_trans hly hls
      have HDA := Lib.hid (selF_difA S T)
      clear hls hly HES
      generalize selF T true (cellsOf S.1 S.2) = ys at *
      go_wp2_with (go_at_call 47; with_reducible refine HY2.out.mono ?_; rintro e w2 ⟨v2, rfl, ho, hb⟩; have HI2 := Lib.hid (HIE.out.later hb).fresh; have HO2 := Lib.hid (ho.slT.mono fun k hk => hk.2); obtain ⟨a2, c2, rfl⟩ := ho.form; clear ho hb)
      clear HIE HY HY2
      go_loopw [27] (fun i wr => ∃ k : Nat, k ≤ Q.length ∧ i = .int .i64 k ∧ DifI w w2 w.heap.size (ys ++ selF S false (cellsR (Q.take k))) wr) (fun i _ => Q.length - (intOf i).toNat)
      case atStart => exact ⟨0, Nat.zero_le _, rfl, by show DifI _ _ _ (ys ++ []) _; rw [List.append_nil]; exact HI2.out⟩
      case round =>
        clear HI2
        obtain ⟨k, hk, rfl, hi⟩ := hrel
        have HI := Lib.hid hi
        clear hi
        by_cases hlt : k < Q.length
        · obtain ⟨b2, o2, sa, sc, rfl, hp, t0, t1, s1⟩ := ref_atp HO2.out (List.getElem?_eq_getElem hlt)
          have f0 := (World.cell?_of_block (w := w2) (HI.out.keep b2 hp) (a := ⟨b2, o2 + k * 2, none⟩)).trans t0
          have f1 := (World.cell?_of_block (w := w2) (HI.out.keep b2 hp) (a := ⟨b2, o2 + k * 2 + 1, none⟩)).trans t1
          have HTK := Lib.hid (cellsR_take hlt)
          have hse := (HPT.out Q[k] (List.getElem_mem hlt)).1
          have hlen : (ys ++ selF S false (cellsR (Q.take k))).length ≤ 200000 := by
            have h1 := selF_len S false (cellsR (Q.take k))
            have h2 := HLT.out k
            have h3 := HLY.out
            rw [List.length_append]
            omega
          generalize Q[k] = r at *
          obtain ⟨ra, rl⟩ := r
          have hal := (Below.refl wr.heap.size wr).alloc (Nat.le_refl _) (.cells #[.int .i64 (ra : Int), .slice sa rl.length sc] 79)
          have HD := Lib.hid (Diff1_any w w2 w.heap.size m1 S ra sa rl sc false _ _ s1 HS.out hse (HI.out.later hal) (Nat.le_refl _) hlen)
          have HE : Hid (ys ++ selF S false (cellsR (Q.take (k + 1))) = (ys ++ selF S false (cellsR (Q.take k))) ++ selF S false (cellsF ra rl)) := by show _ = _; rw [HTK.out, selF_app, List.append_assoc]
          clear t0 t1 s1 hp hse hal hlen HTK
          go_wp2_with (go_at_call 80; refine HD.out.mono ?_; rintro e w3 ⟨rfl, hi⟩; have HI3 := Lib.hid hi; clear hi)
          go_roundw
          case rel => exact ⟨k + 1, by omega, by go_num, by rw [HE.out]; exact HI3.out⟩
          case measure => simp [intOf]; omega
        · obtain rfl : k = Q.length := by omega
          have hi2 := HI.out
          rw [List.take_length, HET.out, HDA.out] at hi2
          obtain ⟨ov, p1, o1⟩ := hi2.out
          have q0 := p1.cell 0
          have hln : ((difA S T).map fun n : Nat => (n : Int)).length ≤ 1000000 := by rw [List.length_map]; exact Nat.le_trans (difA_len S T) (by omega)
          have HSO := Lib.hid (Sort_any ov _ _ _ o1 hln)
          rw [difA_sort] at HSO
          have hnb : ov.ownBlock ≠ some w.heap.size := fun e => by
            obtain ⟨cs2, hh⟩ := o1.rowT e
            have hk2 : wr.heap[w.heap.size]? = some (.cells #[ov] 67 (0, 0)) := p1
            rw [hk2] at hh
            injection hh with hh
            injection hh with _ hh
            exact absurd hh (by decide)
          have HNB := Lib.hid hnb
          have HP1 := Lib.hid p1
          have HBW := Lib.hid hi2.below
          have HLT2 := Lib.hid o1.lt
          clear hnb p1 hi2 o1 hln HI
          go_wp2_with (go_at_call 82; refine HSO.out.mono ?_; rintro e w4 ⟨rfl, ho, hg⟩; have HO4 := Lib.hid ho; have hp4 := HP1.out.grown hg (fun e => HNB.out e.symm); have q4 := hp4.cell 0; have HB4 := Lib.hid (HBW.out.grown hg HBW.out.size (fun k hk => (HLT2.out k hk).1)); clear ho hg hp4)
          go_ret
          exact ⟨_, rfl, HO4.out.sl0, HB4.out⟩
end Go.Proofs.YtcfjcoockklkeaaDoor
