/-
  items.Split. Conditions: the library's table as its initialiser lays it; sizes.
-/
import Derived.Test.YtnbmbcjnncbaiaaGreatDoorJ10
import Derived.Test.YtnbmbcjnncbaiaaGreatDoorJ8
namespace Go.Proofs.YtnbmbcjnncbaiaaGreatDoor
open Go.RowKit Go.Shelf Go.Sort
attribute [local go_sem] Oper.semAt_some

theorem results_cell1 {fn : Func} {p : Tmp} (h : fn.results = #[.cell p 3]) (tmps : Array Value) (w : World) (b : Nat) (k : Int) (hp : tmps.getD p undef = .pointer (some ⟨b, 0, none⟩)) (hc : w.cell? ⟨b, 0, none⟩ = some (.int .i64 k)) : (results fn tmps).run Tryz.prog w = .ok (.int .i64 k) w := by
  have hp' : tmps[p]?.getD undef = .pointer (some ⟨b, 0, none⟩) := by simpa using hp
  simp [results, h, hp', go_sem, hc]
/-- what the loop holds -/
structure SpI (n0 : Nat) (w wS : World) (pre : List It) (W : World) : Prop where
  tk : Tk (fun k => k < n0) wS W
  below : Below w.heap.size w W
  size : wS.heap.size ≤ W.heap.size
  all : ∀ x ∈ pre, okI x = true
theorem SpI.own {n0 : Nat} {w wS W W' : World} {L : List It} {row : Option Nat} (hB : w.heap.size ≤ wS.heap.size) (h : SpI n0 w wS L W) (hg : W.grownBy W' row) (hr : ∀ r, row = some r → wS.heap.size ≤ r ∧ ∃ o : Obj, W.heap[r]? = some o ∧ o.isCells = false) : SpI n0 w wS L W' :=
  ⟨h.tk.trans (Tk.ownI hg hr), h.below.grown hg h.below.size (fun k hk => Nat.le_trans hB (hr k hk).1), Nat.le_trans h.size hg.size, h.all⟩
/-- where a round stops -/
structure SpX (w : World) (rc : Nat) (l : List UInt8) (W : World) : Prop where
  blk : Blk W rc 3 #[.int .i64 0]
  below : Below w.heap.size w W
  no : waysF l = 0
theorem SpX.own {w wS W W' : World} {rc : Nat} {l : List UInt8} {row : Option Nat} (hB : w.heap.size ≤ wS.heap.size) (h : SpX w rc l W) (hg : W.grownBy W' row) (hr : ∀ r, row = some r → wS.heap.size ≤ r ∧ ∃ o : Obj, W.heap[r]? = some o ∧ o.isCells = false) : SpX w rc l W' :=
  ⟨blk_own h.blk hg hr, h.below.grown hg h.below.size (fun k hk => Nat.le_trans hB (hr k hk).1), h.no⟩
theorem ways_no {l : List UInt8} {x : It} (h : x ∈ itemsF l) (hn : okI x = false) : waysF l = 0 := by
  unfold waysF
  rw [if_neg]
  intro e
  rw [List.all_eq_true] at e
  rw [e x h] at hn
  cases hn
theorem ways_all {l : List UInt8} (h : ∀ x ∈ itemsF l, okI x = true) : waysF l = 1 := by
  unfold waysF
  rw [if_pos (List.all_eq_true.2 h)]
set_option maxHeartbeats 8000000 in
set_option maxRecDepth 100000 in
theorem Split_any (p : Blocks) (a : Option Addr) (c : Nat) (l : List UInt8) (w : World) (hT : Spc w) (hs : SlR byteR w p (.slice a l.length c) l) (hl : l.length ≤ 1000000) :
    Calls Tryz.prog 27 #[.slice a l.length c] w fun e w' => e = .returned (.int .i64 (waysF l)) ∧ Below w.heap.size w w' := by
  have HF := Lib.hid (((Fr.start w).new 3 #[.int .i64 0]).new' 22 #[.slice a l.length c] (b := w.heap.size + 1) (World.size_alloc _ _))
  obtain ⟨wS, hwS⟩ : ∃ W : World, W = (w.alloc (.cells #[.int .i64 0] 3)).alloc (.cells #[.slice a l.length c] 22) := ⟨_, rfl⟩
  have hsz : wS.heap.size = w.heap.size + 1 + 1 := by rw [hwS, World.size_alloc, World.size_alloc]
  have HSZ := Lib.hid hsz
  rw [← hwS] at HF
  have HSEQ := Lib.hid (each_seq (fun A C => Tk (fun k => k < wS.heap.size) A C ∧ A.heap.size ≤ C.heap.size) (fun _ => True) wS.heap.size (w.heap.size + 1) a c l (fun k => p k ∧ k < w.heap.size) wS (HF.out.blk 0 rfl) (by omega) (hs.old.below HF.out.below) (fun k hk => by have := hk.2; omega) (hT.below HF.out.below) (by have := hT.at; omega) hl
    (fun A C h => h.1) trivial (fun _ _ _ _ => trivial) (fun _ _ _ _ => trivial))
  have HI0 : Hid (SpI wS.heap.size w wS [] wS) := Lib.hid ⟨Tk.refl, HF.out.below, Nat.le_refl _, by simp⟩
  have HWS : Hid (w.heap.size ≤ wS.heap.size) := Lib.hid HF.out.below.size
  have HNW := Lib.hid (fun (x : It) (h : x ∈ itemsF l) (hn : okI x = false) => ways_no h hn)
  have HAW := Lib.hid (ways_all (l := l))
  obtain ⟨L, hL⟩ : ∃ L, itemsF l = L := ⟨_, rfl⟩
  have HLQ := Lib.hid hL
  rw [hL] at HSEQ HNW HAW
  clear hL hs hT hl hsz
  refine (callsIn_wide (n := 9)).1 ?_
  refine callsIn_of_wp_marks Tryz.func27 rfl trivial ?_ rfl
  simp only [Tryz.ntmps27, List.size_toArray, List.length_cons, List.length_nil, Nat.reduceAdd, Nat.reduceSub, Array.replicate_succ, Array.replicate_zero, List.push_toArray, List.append_toArray, List.nil_append, List.cons_append]
  refine wpIn_wide.2 ?_
  go_wp2_with (go_at_call 60; refine (each_any _ _ _ _).mono ?_; rintro e w1 ⟨rfl, hw1⟩; subst w1)

  rw [← hwS]
  clear hwS
  refine (wpIn_wide (n := 9)).1 ?_
  refine wpIn_range_memx rfl (by omega) (gf := 91) (lb := #[.pointer (some ⟨w.heap.size + 1, 0, none⟩)]) rfl trivial (enters_of Tryz.func91 (by kernel_rfl) rfl)
    (encs := encI) (fun _ => rfl) HSEQ.out (fun h k => ⟨h.1.trans k.1, Nat.le_trans h.2 k.2⟩) (fun W l o o' h1 h2 => ⟨Tk.put W l o o' h1 h2, (put_grown (W := W) (l := l) o').size⟩)
    (fun (pre : List (It × Value)) W => SpI wS.heap.size w wS (pre.map (fun z : It × Value => z.1)) W)
    (fun cd _ W => cd = .ret ∧ SpX w w.heap.size l W)
    (fun pre W W' row hi hg hr => SpI.own HWS.out (show SpI wS.heap.size w wS (pre.map (fun z : It × Value => z.1)) W from hi) hg hr)
    (fun cd pre W W' row hi hg hr => ⟨hi.1, hi.2.own HWS.out hg hr⟩)
    HI0.out
    (fun pre x a' W => ∃ (g : Nat) (ra va : Option Addr) (r9 v9 : Nat) (u0 u1 u4 u5 u6 u7 u8 u9 u10 u11 u12 u13 : Value), wS.heap.size ≤ g ∧ Blk W g 29 (itCs x.1 ra r9 va v9) ∧ (pre.map (·.1) ++ [x.1]) <+: L ∧ a' = { tmps := #[u0, u1, .pointer (some ⟨w.heap.size, 0, none⟩), .pointer (some ⟨g, 0, none⟩), u4, u5, u6, u7, u8, u9, u10, u11, u12, u13], defers := [] })
    ?ax ?assign ?body ?done ?stop
  case ax =>
    rintro pre x a' W l o o' ⟨g, ra, va, r9, v9, u0, u1, u4, u5, u6, u7, u8, u9, u10, u11, u12, u13, hg, hb, hpre, rfl⟩ hl ho hc
    have htk : Tk (fun _ => True) W (W.putObj l o') := Tk.put W l o o' ho hc
    exact ⟨g, ra, va, r9, v9, u0, u1, u4, u5, u6, u7, u8, u9, u10, u11, u12, u13, hg, htk.blk hb trivial, hpre, rfl⟩
  case assign =>
    rintro l pre ⟨x1, v1⟩ W K hi ⟨⟨A, q, _, hAW, ⟨ra, r9, va, v9, hv, _, _⟩, hq⟩, hpre⟩ hK
    dsimp only at hv hpre
    rw [HLQ.out] at hpre
    subst hv
    have HK := Lib.hid hK
    have HI := Lib.hid hi
    have HP := Lib.hid hpre
    obtain ⟨k9, R1, op, args, al⟩ := x1
    dsimp only [itCs] at HP ⊢
    have HBN : Hid (Below W.heap.size W (W.alloc (.cells #[.int .i64 k9, .slice ra R1.length r9, .string ⟨op.toArray⟩, .slice va args.length v9, .bool al] 29))) := Lib.hid ((Below.refl _ _).alloc (Nat.le_refl _) _)
    clear hK hi hpre hq hAW
    dsimp only [encI]
    gi_wp2
    exact HK.out _ _ (Recs.below HBN.out) ⟨Tk.below HBN.out, HBN.out.size⟩ ⟨HI.out.tk.trans (Tk.below HBN.out), HI.out.below.trans (HBN.out.mono HI.out.below.size), Nat.le_trans HI.out.size HBN.out.size, HI.out.all⟩ ⟨W.heap.size, ra, va, r9, v9, _, _, _, _, _, _, _, _, _, _, _, _, HI.out.size, Blk.new W _ _, HP.out, rfl⟩
  case body =>
    rintro l2 pre ⟨x1, v1⟩ a' W hl hi ⟨g, ra, va, r9, v9, u0, u1, u4, u5, u6, u7, u8, u9, u10, u11, u12, u13, hg, hb, hpre, rfl⟩
    dsimp only at hb hpre
    have HMEM : Hid (x1 ∈ L) := Lib.hid (hpre.subset (by simp))
    have hme : (pre ++ [(x1, v1)]).map (fun z : It × Value => z.1) = pre.map (fun z : It × Value => z.1) ++ [x1] := by rw [List.map_append]; rfl
    have HME := Lib.hid hme
    have HI := Lib.hid hi
    have HRB := Lib.hid (hi.tk.blk (HF.out.blk 1 rfl) (by have := HSZ.out; omega))
    have r0 := HRB.out.cell 0
    have z0 := HRB.out.free 0
    have HOK : Hid (okI x1 = (decide (x1.k = 1) && !x1.al)) := Lib.hid rfl
    have HN1 := Lib.hid (fun h => HNW.out x1 HMEM.out h)
    obtain ⟨k9, R1, op, args, al⟩ := x1
    dsimp only [itCs] at hb HOK
    obtain ⟨⟨y0, y1, y2, y3, y4⟩, _⟩ := hb.five
    clear hi hb hpre hme HSEQ
    by_cases hk9 : k9 = 1
    · subst hk9
      cases al
      · have HO1 : Hid (okI ⟨1, R1, op, args, false⟩ = true) := Lib.hid (by rw [HOK.out]; rfl)
        gi_wp2
        exact ⟨Recs.refl _ _, ⟨Tk.refl, Nat.le_refl _⟩, by show SpI wS.heap.size w wS (List.map (fun z : It × Value => z.1) _) W; rw [HME.out]; exact ⟨HI.out.tk, HI.out.below, HI.out.size, fun x hx => by
          rcases List.mem_append.1 hx with h | h
          · exact HI.out.all x h
          · rw [List.mem_singleton.1 h]; exact HO1.out⟩⟩
      · have HO1 : Hid (okI ⟨1, R1, op, args, true⟩ = false) := Lib.hid (by rw [HOK.out]; rfl)
        gi_wp2
        exact ⟨Recs.setCell HRB.out 0 _, rfl, HRB.out.set 0 _, HI.out.below.setCell (p := ⟨w.heap.size, 0, none⟩) (Nat.le_refl _) _, HN1.out HO1.out⟩
    · have HO1 : Hid (okI ⟨k9, R1, op, args, al⟩ = false) := Lib.hid (by rw [HOK.out, decide_eq_false hk9]; rfl)
      gi_wp2
      exact ⟨Recs.setCell HRB.out 0 _, rfl, HRB.out.set 0 _, HI.out.below.setCell (p := ⟨w.heap.size, 0, none⟩) (Nat.le_refl _) _, HN1.out HO1.out⟩
  case done =>
    rintro D xs W hD hall hi hK
    have HKD := Lib.hid hK
    have HI := Lib.hid hi
    have HW1 : Hid (waysF l = 1) := Lib.hid (HAW.out (by rw [← hall]; exact hi.all))
    have HRB := Lib.hid (hi.tk.blk (HF.out.blk 1 rfl) (by have := HSZ.out; omega))
    have z0 := HRB.out.free 0
    have r0 := HRB.out.cell 0
    clear hK hi hall HSEQ
    go_wp2
    have hne1 : D ≠ w.heap.size := by have := HSZ.out; omega
    have hx1 := HRB.out.set 0 (.int .i64 1)
    have hx3 := HI.out.below.setCell (p := ⟨w.heap.size, 0, none⟩) (Nat.le_refl _) (.int .i64 1)
    have hx4 : (W.setCell ⟨w.heap.size, 0, none⟩ (.int .i64 1)).heap[D]? = some (.deferred (some [])) := (Below.heap_setCell _ _ _ _ hne1).trans HKD.out
    generalize W.setCell ⟨w.heap.size, 0, none⟩ (.int .i64 1) = W9 at *
    refine ⟨by simp, .inl ⟨_, _, rfl, run_takeDeferred (w := W9) hx4, ?_⟩⟩
    have hgr : W9.grownBy (W9.putObj D (.deferred none)) (some D) := put_grown _
    have hrr : ∀ r, some D = some r → wS.heap.size ≤ r ∧ ∃ o : Obj, W9.heap[r]? = some o ∧ o.isCells = false := fun r e => by injection e with e; subst e; exact ⟨hD, _, hx4, rfl⟩
    refine ⟨_, results_cell1 rfl _ _ w.heap.size 1 rfl ((blk_own hx1 hgr hrr).cell 0), ?_⟩
    rw [HW1.out]
    exact ⟨rfl, hx3.grown hgr hx3.size (fun k hk => Nat.le_trans HWS.out (hrr k hk).1)⟩
  case stop =>
    rintro D cd pre W hD hpre ⟨rfl, h1, h2, h3⟩ hK
    have HW0 := Lib.hid h3
    have HKD := Lib.hid hK
    have HX4 := Lib.hid h1
    have HX7 := Lib.hid h2
    clear h1 h2 h3 hK HSEQ
    gi_wp2
    refine ⟨by simp, .inl ⟨_, _, rfl, run_takeDeferred HKD.out, ?_⟩⟩
    have hgr : W.grownBy (W.putObj D (.deferred none)) (some D) := put_grown _
    have hrr : ∀ r, some D = some r → wS.heap.size ≤ r ∧ ∃ o : Obj, W.heap[r]? = some o ∧ o.isCells = false := fun r e => by injection e with e; subst e; exact ⟨hD, _, HKD.out, rfl⟩
    refine ⟨_, results_cell1 rfl _ _ w.heap.size 0 rfl ((blk_own HX4.out hgr hrr).cell 0), ?_⟩
    rw [HW0.out]
    exact ⟨rfl, HX7.out.grown hgr HX7.out.size (fun k hk => Nat.le_trans HWS.out (hrr k hk).1)⟩
end Go.Proofs.YtnbmbcjnncbaiaaGreatDoor
