/-
  hexwrite.lines. Conditions: the size in its range.
-/
import Derived.Test.YtcfjcoockklkeaaDoorW9
import Derived.Shelf.RegionOpen
namespace Go.Proofs.YtcfjcoockklkeaaDoor
open Go.RowKit
attribute [local go_sem] Oper.semAt_some

theorem lines_start (w : World) (n : Nat) (mo : Option Addr) : Blk (((w.alloc (.cells #[.slice none 0 0] 33)).alloc (.cells #[.int .i64 n] 3)).alloc (.cells #[.pointer mo] 23)) w.heap.size 33 #[.slice none 0 0] ∧
    Blk (((w.alloc (.cells #[.slice none 0 0] 33)).alloc (.cells #[.int .i64 n] 3)).alloc (.cells #[.pointer mo] 23)) (w.heap.size + 1) 3 #[.int .i64 n] ∧
    Blk (((w.alloc (.cells #[.slice none 0 0] 33)).alloc (.cells #[.int .i64 n] 3)).alloc (.cells #[.pointer mo] 23)) (w.heap.size + 1 + 1) 23 #[.pointer mo] ∧
    Below w.heap.size w (((w.alloc (.cells #[.slice none 0 0] 33)).alloc (.cells #[.int .i64 n] 3)).alloc (.cells #[.pointer mo] 23)) := by
  refine ⟨((Blk.new _ _ _).alloc _).alloc _, ?_, ?_, (((Below.refl _ w).alloc (Nat.le_refl _) _).alloc (by simp) _).alloc (by simp; omega) _⟩
  · have := (Blk.new (w.alloc (.cells #[.slice none 0 0] 33)) 3 #[.int .i64 n]).alloc (.cells #[.pointer mo] 23)
    simpa using this
  · have := Blk.new ((w.alloc (.cells #[.slice none 0 0] 33)).alloc (.cells #[.int .i64 n] 3)) 23 #[.pointer mo]
    simpa using this
set_option maxHeartbeats 4000000 in
set_option maxRecDepth 100000 in
theorem lines_any (n : Nat) (R : List (Nat × List UInt8)) (mo : Option Addr) (w : World) (hI : ImgV w (.pointer mo) R) (hT : Deb w) (hn : 1 ≤ n) (hn2 : n ≤ 255) (hRl : R.length ≤ 65536) :
    Calls Tryd.prog 49 #[.int .i64 n, .pointer mo] w fun e w' => ∃ v', e = .returned v' ∧ Own strR w' w.heap.size 9 NoB v' ((allRecs n R).map lineB) ∧ Below w.heap.size w w' := by
  obtain ⟨hk1, hk2, hk3, hb0⟩ := lines_start w n mo
  have HK1 := Lib.hid hk1
  have HB0 := Lib.hid hb0
  have HSEP := Lib.hid hI.sep
  have hcnt : (allRecs n R).length ≤ 65537 := by
    unfold allRecs
    rw [List.length_append, List.length_map]
    rcases recs_count hn hI.sep with rfl | h
    · show (recs n []).length + 1 ≤ _; simp [recs]
    · simp; omega
  have HCNT := Lib.hid hcnt
  have hseq := records_seq n R mo (w.heap.size + 1 + 1) (w.heap.size + 1) _ hk3 hk2 (hI.below hb0) (hT.below hb0) hn hn2 hRl
  clear hI hT hk1 hk2 hk3 hb0 hRl hcnt
  have HSEQ := Lib.hid hseq
  clear hseq
  refine (callsIn_wide (n := 9)).1 ?_
  refine callsIn_of_wp_marks Tryd.func49 rfl trivial ?_ rfl
  simp only [Tryd.ntmps49, List.size_toArray, List.length_cons, List.length_nil, Nat.reduceAdd, Nat.reduceSub, Array.replicate_succ, Array.replicate_zero, List.push_toArray, List.append_toArray, List.nil_append, List.cons_append]
  gi_wp2_with (refine ⟨trivial, ?_⟩; gi_at_call 84; refine (callsIn_wide.2 (records_any n mo _)).mono ?_; rintro e w' ⟨rfl, rfl⟩)
  generalize ((w.alloc (.cells #[.slice none 0 0] 33)).alloc (.cells #[.int .i64 n] 3)).alloc (.cells #[.pointer mo] 23) = W0 at *
  refine wpIn_range_mem rfl (by omega) (gf := 115) (lb := #[.pointer (some ⟨w.heap.size + 1 + 1, 0, none⟩), .pointer (some ⟨w.heap.size + 1, 0, none⟩)]) rfl trivial (enters_of Tryd.func115 (by kernel_rfl) rfl)
    (encs := encY) (fun _ => rfl) HSEQ.out Tk.trans Tk.put (LnI w w.heap.size) (LnI.own HB0.out.size) ?start
    (fun pre x a' W => ∃ Bx, LnA n R pre x Bx W ∧ a' = { tmps := #[.int .i64 n, .pointer mo, undef, undef, .slice none 0 0, .pointer (some ⟨w.heap.size, 0, none⟩), .pointer (some ⟨Bx, 0, none⟩), undef, undef, .int .i64 n, .pointer mo, .func (.func 115) #[] #[.pointer (some ⟨w.heap.size + 1 + 1, 0, none⟩), .pointer (some ⟨w.heap.size + 1, 0, none⟩)], .agg #[.int .i64 x.t, .int .i64 x.a, .slice x.sa x.l.length x.sc], undef, undef, undef, undef, undef, undef, undef, undef, undef, undef], defers := [] })
    ?hax ?assign ?body ?done
  case start => exact ⟨⟨_, HK1.out, Own.nil _ _ _ _ _⟩, HB0.out⟩
  case hax =>
    rintro pre x a' W l o o' ⟨Bx, ⟨h1, h2, h3⟩, rfl⟩ hl ho hc
    have hr : ∀ r, (some l) = some r → 0 ≤ r ∧ ∃ o : Obj, W.heap[r]? = some o ∧ o.isCells = false := fun r e => by injection e with e; subst e; exact ⟨Nat.zero_le _, o, ho, hc⟩
    exact ⟨Bx, ⟨h1.own (put_grown o') hr, h2.ownT (put_grown o') hr, h3⟩, rfl⟩
  case assign =>
    intro l' pre x W K hi hx hK
    have HX := Lib.hid hx
    have HI := Lib.hid hi
    clear hx hi
    dsimp only [encY]
    gi_wp2
    have hb : Below W.heap.size W (W.alloc (.cells #[.int .i64 x.t, .int .i64 x.a, .slice x.sa x.l.length x.sc] 46)) := (Below.refl _ W).alloc (Nat.le_refl _) _
    exact hK _ _ (Recs.below hb) (Tk.below hb) (HI.out.later hb) ⟨W.heap.size, ⟨Blk.new _ _ _, HX.out.2.tb hb, HX.out.1⟩, rfl⟩
  case body =>
    rintro l' pre x a' W hl' hi ⟨Bx, hA, rfl⟩
    obtain ⟨⟨ov, hko, hov⟩, hbw⟩ := hi
    have hmem := allRecs_mem hn hn2 HSEP.out (y := specY x) (by obtain ⟨r, hr⟩ := hA.all; rw [← hr]; simp)
    have hlen : pre.length ≤ 100000 := by
      obtain ⟨r, hr⟩ := hA.all
      have := congrArg List.length hr
      have := HCNT.out
      simp at *
      omega
    obtain ⟨e0, e1, e2, _⟩ := hA.box.three
    have HPR := Lib.hid (Print_yes x.t x.a _ _ x.l W hA.data hmem.1 hmem.2.1 hmem.2.2)
    have hltO : w.heap.size < W.heap.size := hko.lt
    have HAPP := Lib.hid (fun (w2 : World) (hb : Below W.heap.size W w2) => line_app (x := x) hko hov hbw hlen hb)
    have hcO := fun (w2 : World) (hb : Below W.heap.size W w2) => (hko.below hb hko.lt)
    have HCO := Lib.hid hcO
    clear hcO hko hov hbw hmem hlen hA
    have hsub : 9 - 1 - 1 = 7 := rfl
    simp only [hsub]
    gi_wp2_with (first
      | (refine ⟨trivial, ?_⟩; gi_at_call 85; refine (CallsIn.inRound l' (callsIn_wide.2 HPR.out)).mono ?_; rintro e w2 ⟨rfl, hb⟩; obtain ⟨a5, c5, w3, hrun, hk3, hrest⟩ := HAPP.out w2 hb; have HRUN := Lib.hid hrun; have HREST := Lib.hid hrest; have d0 := (HCO.out w2 hb).cell 0; have d1 := hk3.cell 0; have g1 := hk3.free 0; clear hrun hrest hk3 hb)
      | (gi_at_builtin; refine wpListIn_run rfl (.tmp 18) (.tmp 20) 33 rfl _ _ HRUN.out ?_))
    exact HREST.out _ (Nat.le_refl _)
  case done =>
    rintro D xs W hD hall hi hK
    obtain ⟨⟨ov, hko, hov⟩, hbw⟩ := hi
    have hmap : (xs.map fun x => lineB (specY x)) = (allRecs n R).map lineB := by rw [← hall, List.map_map]; rfl
    rw [hmap] at hov
    obtain ⟨oa, oc, rfl⟩ := hov.form
    rw [List.length_map] at hov hko
    have HOV := Lib.hid hov
    have HBW := Lib.hid hbw
    have HKD := Lib.hid hK
    have c1 := hko.cell 0
    have hD2 : w.heap.size ≤ D := Nat.le_trans HB0.out.size hD
    clear hmap hov hbw hK hko hall
    gi_wp2
    refine ⟨by simp, .inl ⟨_, _, rfl, run_takeDeferred HKD.out, ?_⟩⟩
    refine ⟨_, results_tmp rfl _ _ _, ⟨_, rfl, ?_, ?_⟩⟩
    · exact HOV.out.ownS (B' := 0) (put_grown _) (fun r e => by injection e with e; subst e; exact ⟨Nat.zero_le _, _, HKD.out, rfl⟩)
    · exact HBW.out.grown (put_grown _) HBW.out.size (fun k e => by injection e with e; subst e; exact hD2)
end Go.Proofs.YtcfjcoockklkeaaDoor
