/-
  slices.AppendSeq and slices.Collect over items.each; items.Decode. Conditions: the library's table as its initialiser lays it; sizes.
-/
import Derived.Test.YtnbmbcjnncbaiaaGreatDoorJ7
namespace Go.Proofs.YtnbmbcjnncbaiaaGreatDoor
open Go.RowKit Go.Shelf Go.Sort
attribute [local go_sem] Oper.semAt_some

/-- a block that is not the accumulator's -/
def GkI (bo : Nat) (A : World) (k : Nat) : Prop := ∃ u, A.cell? ⟨bo, 0, none⟩ = some u ∧ u.ownBlock ≠ some k
theorem GkI.below {bo : Nat} {A C : World} {k : Nat} (h : Below A.heap.size A C) (g : GkI bo A k) : GkI bo C k := by
  obtain ⟨u, hu, hn⟩ := g
  exact ⟨u, (h.cell (p := ⟨bo, 0, none⟩) (cellI_lt hu)).trans hu, hn⟩
theorem GkI.tk {bo : Nat} {A C : World} {k : Nat} (g : GkI bo A k) (ht : Tk (fun _ => True) A C) : GkI bo C k := by
  obtain ⟨u, hu, hn⟩ := g
  obtain ⟨q, hq, hqc⟩ := blk_of_cell hu
  exact ⟨u, (World.cell?_of_block ((ht bo q trivial hq hqc).trans hq.symm)).trans hu, hn⟩
theorem GkI.fresh {bo : Nat} {A W : World} {k : Nat} (g : PhI bo A) (h : Below A.heap.size A W) (hk : A.heap.size ≤ k) : GkI bo W k := by
  obtain ⟨u, hu, hn⟩ := g
  exact ⟨u, (h.cell (p := ⟨bo, 0, none⟩) (cellI_lt hu)).trans hu, fun e => by have := hn k e; omega⟩
theorem GkI.ne {bo : Nat} {W : World} {k : Nat} {t : TypeId} {v : Value} (g : GkI bo W k) (h : Blk W bo t #[v]) : v.ownBlock ≠ some k := by
  obtain ⟨u, hu, hn⟩ := g
  have e := hu.symm.trans (h.cell 0)
  injection e with e
  subst e
  exact hn
set_option maxHeartbeats 8000000 in
set_option maxRecDepth 100000 in
theorem AppendSeq_any (bb : Nat) (a : Option Addr) (c : Nat) (l : List UInt8) (p : Blocks) (w : World) (hB : Blk w bb 22 #[.slice a l.length c]) (hs : SlR byteR w p (.slice a l.length c) l) (hT : Spc w) (hl : l.length ≤ 1000000) :
    Calls Tryz.prog 93 #[.slice none 0 0, .func (.func 91) #[] #[.pointer (some ⟨bb, 0, none⟩)]] w (ItsP w (itemsF l)) := by
  have HEP : Hid (ItsP w (itemsF l) = fun e w' => (∃ v, e = .returned v ∧ Acc itR w' w.heap.size tItm v (itemsF l)) ∧ Below w.heap.size w w') := Lib.hid rfl
  have HF := Lib.hid ((Fr.start w).new 39 #[.slice none 0 0])
  obtain ⟨bo, hbo⟩ : ∃ b, w.heap.size = b := ⟨_, rfl⟩
  have HBO := Lib.hid hbo
  obtain ⟨wS, hwS⟩ : ∃ W : World, W = w.alloc (.cells #[.slice none 0 0] 39) := ⟨_, rfl⟩
  rw [← hwS, hbo] at HF
  have HGC := Lib.hid (HF.out.blk 0 rfl).lt
  have HBW : Hid (Below bo w wS) := Lib.hid (by rw [← hbo]; exact HF.out.below)
  have HSEQ := Lib.hid (each_seq (TkI bo) (fun W => PhI bo W ∧ wS.heap.size ≤ W.heap.size) bo bb a c l (fun k => p k ∧ k < bo) wS (hB.below (by rw [hbo]; exact HBW.out) hB.lt) (by rw [← hbo]; exact hB.lt) ((by rw [← hbo]; exact hs.old : SlR byteR w (fun k => p k ∧ k < bo) (.slice a l.length c) l).below (by rw [hbo]; exact HBW.out)) (fun k hk => hk.2) (hT.below (by rw [hbo]; exact HBW.out)) (by rw [← hbo]; exact hT.at) hl
    (fun A C h => h.tk) ⟨⟨_, (HF.out.blk 0 rfl).cell 0, fun k e => by cases e⟩, Nat.le_refl _⟩ (fun A C h g => ⟨g.1.below h, Nat.le_trans g.2 h.size⟩) (fun A C h g => ⟨h.phi g.1, Nat.le_trans g.2 h.size⟩))
  have HI0 : Hid (ItI w wS bo [] wS) := Lib.hid ⟨Tk.refl, ⟨_, HF.out.blk 0 rfl, Acc.nil _ _ _⟩, HF.out.below, Nat.le_refl _⟩
  have HLN := Lib.hid (Nat.le_trans (itemsF_len l) hl)
  have HWS : Hid (w.heap.size ≤ wS.heap.size) := Lib.hid HBW.out.size
  clear hB hs hT hl
  obtain ⟨L, hL⟩ : ∃ L, itemsF l = L := ⟨_, rfl⟩
  have HLQ := Lib.hid hL
  rw [hL] at HEP HLN HSEQ ⊢
  clear hL
  rw [HEP.out]
  clear HEP
  refine (callsIn_wide (n := 9)).1 ?_
  refine callsIn_of_wp_marks Tryz.func93 rfl trivial ?_ rfl
  simp only [Tryz.ntmps93, List.size_toArray, List.length_cons, List.length_nil, Nat.reduceAdd, Nat.reduceSub, Array.replicate_succ, Array.replicate_zero, List.push_toArray, List.append_toArray, List.nil_append, List.cons_append]
  refine wpIn_wide.2 ?_
  go_upto_region 1 with fail
  rw [← hwS]
  clear hwS hbo HF
  go_wp2_with fail
  refine (wpIn_wide (n := 9)).1 ?_
  refine wpIn_range_memx rfl (by omega) (gf := 91) (lb := #[.pointer (some ⟨bb, 0, none⟩)]) rfl trivial (enters_of Tryz.func91 (by kernel_rfl) rfl)
    (encs := encI) (fun _ => rfl) HSEQ.out (fun h k => h.trans k) (fun W l o o' h1 h2 => TkI.put W l o o' h1 h2)
    (fun (pre : List (It × Value)) W => ItI w wS bo (pre.map (fun z : It × Value => z.1)) W)
    (fun _ _ _ => False)
    (fun pre W W' row hi hg hr => ItI.own HWS.out (show ItI w wS bo (pre.map (fun z : It × Value => z.1)) W from hi) hg hr)
    (fun c pre W W' row hi hg hr => hi.elim)
    HI0.out
    (fun pre x a' W => ∃ (g : Nat) (ra va : Option Addr) (rc vc : Nat) (u0 u1 u3 u4 u6 u7 u8 u9 u10 u11 u12 : Value), wS.heap.size ≤ g ∧ Blk W g 29 (itCs x.1 ra rc va vc) ∧ (∃ q : Blocks, SlR byteR W q (.slice ra x.1.raw.length rc) x.1.raw ∧ SlR opdR W q (.slice va x.1.args.length vc) x.1.args ∧ ∀ k, q k → wS.heap.size ≤ k ∧ k < W.heap.size ∧ GkI bo W k) ∧ (pre.map (·.1) ++ [x.1]) <+: L ∧ a' = { tmps := #[u0, u1, .pointer (some ⟨bo, 0, none⟩), u3, u4, .pointer (some ⟨g, 0, none⟩), u6, u7, u8, u9, u10, u11, u12], defers := [] })
    ?ax ?assign ?body ?done ?stop
  case ax =>
    rintro pre x a' W l o o' ⟨g, ra, va, rc, vc, u0, u1, u3, u4, u6, u7, u8, u9, u10, u11, u12, hg, hb, ⟨q, hs, hs2, hq⟩, hpre, rfl⟩ hl ho hc
    have hgr := (put_grown (W := W) (l := l) o').size
    have htk : Tk (fun _ => True) W (W.putObj l o') := Tk.put W l o o' ho hc
    exact ⟨g, ra, va, rc, vc, u0, u1, u3, u4, u6, u7, u8, u9, u10, u11, u12, hg, htk.blk hb trivial, ⟨q, hs.tkY htk (fun _ _ => trivial), hs2.tkO htk (fun _ _ => trivial), fun k hk => ⟨(hq k hk).1, Nat.lt_of_lt_of_le (hq k hk).2.1 hgr, (hq k hk).2.2.tk htk⟩⟩, hpre, rfl⟩
  case assign =>
    rintro l pre ⟨x1, v1⟩ W K hi ⟨⟨A, q, hΦ, hAW, ⟨ra, rc, va, vc, hv, hs, hs2⟩, hq⟩, hpre⟩ hK
    dsimp only at hv hs hs2 hpre
    rw [HLQ.out] at hpre
    subst hv
    have HK := Lib.hid hK
    have HI := Lib.hid hi
    have HS := Lib.hid hs
    have HS2 := Lib.hid hs2
    have HQ := Lib.hid (fun k (h : q k) => (show wS.heap.size ≤ k ∧ k < W.heap.size ∧ GkI bo W k from ⟨Nat.le_trans hΦ.2 (hq k h).1, (hq k h).2, GkI.fresh hΦ.1 hAW (hq k h).1⟩))
    have HP := Lib.hid hpre
    obtain ⟨k9, R1, op, args, al⟩ := x1
    dsimp only [itCs] at HS HS2 HP ⊢
    have HBN : Hid (Below W.heap.size W (W.alloc (.cells #[.int .i64 k9, .slice ra R1.length rc, .string ⟨op.toArray⟩, .slice va args.length vc, .bool al] 29))) := Lib.hid ((Below.refl _ _).alloc (Nat.le_refl _) _)
    clear hK hi hs hs2 hpre hq hΦ hAW
    dsimp only [encI]
    gi_wp2
    exact HK.out _ _ (Recs.below HBN.out) (TkI.below HBN.out) (HI.out.stay HBN.out) ⟨W.heap.size, ra, va, rc, vc, _, _, _, _, _, _, _, _, _, _, _, HI.out.size, Blk.new W _ _, ⟨q, HS.out.below HBN.out, HS2.out.below HBN.out, fun k hk => ⟨(HQ.out k hk).1, Nat.lt_of_lt_of_le (HQ.out k hk).2.1 HBN.out.size, (HQ.out k hk).2.2.below HBN.out⟩⟩, HP.out, rfl⟩
  case body =>
    rintro l pre ⟨x1, v1⟩ a' W hl hi ⟨g, ra, va, rc, vc, u0, u1, u3, u4, u6, u7, u8, u9, u10, u11, u12, hg, hb, ⟨q, hs, hs2, hq⟩, hpre, rfl⟩
    dsimp only at hb hs hs2 hpre
    have hln : (pre.map (fun z : It × Value => z.1)).length ≤ 1000000 := by
      have h1 := hpre.length_le
      have h2 := HLN.out
      rw [List.length_append] at h1
      omega
    obtain ⟨vo, hvo, hao⟩ := hi.acc
    obtain ⟨oa, oc, rfl⟩ := hao.form
    have hme : (pre ++ [(x1, v1)]).map (fun z : It × Value => z.1) = pre.map (fun z : It × Value => z.1) ++ [x1] := by rw [List.map_append]; rfl
    have HME := Lib.hid hme
    obtain ⟨a5, c5, w3, hrun, hb3, hre, hta, hall⟩ := ItI.app x1 (itCs x1 ra rc va vc) q hi (by have := HBO.out; omega) HGC.out hvo hln ⟨ra, rc, va, vc, rfl, hs, hs2⟩ (fun k hk => ⟨(hq k hk).1, (hq k hk).2.2.ne hvo⟩)
    have HRN := Lib.hid hrun
    have HRE := Lib.hid hre
    have HTA := Lib.hid hta
    have HAL := Lib.hid hall
    obtain ⟨k9, R1, op, args, al⟩ := x1
    dsimp only [itCs] at hb HRN
    obtain ⟨⟨y0, y1, y2, y3, y4⟩, _⟩ := hb.five
    have k0 := hvo.cell 0
    have k3 := hb3.cell 0
    have k4 := hb3.free 0
    clear hi hs hs2 hb hq hpre hme hln HSEQ hvo hao hrun hre hta hall hb3
    generalize (pre.map (fun z : It × Value => z.1)).length = n at *
    gi_wp2_with (first | (gi_at_builtin; refine wpListIn_append_run rfl (.tmp 8) (.tmp 10) 39 rfl rfl rfl HRN.out ?_) | gi_in)
    exact ⟨HRE.out, HTA.out, by show ItI w wS bo (List.map (fun z : It × Value => z.1) _) _; rw [HME.out]; exact HAL.out⟩
  case done =>
    rintro D xs W hD hall hk hK
    have HKD := Lib.hid hK
    have hk2 := hk.own HWS.out (put_grown (W := W) (l := D) (.deferred none)) (fun r e => by injection e with e; subst e; exact ⟨hD, _, hK, rfl⟩)
    rw [hall] at hk hk2
    obtain ⟨v, hb1, hov⟩ := hk.acc
    obtain ⟨v2, hb2, hov2⟩ := hk2.acc
    obtain rfl : v2 = v := by
      have hne : bo ≠ D := by have := HGC.out; omega
      have e1 : (W.putObj D (.deferred none)).heap[bo]? = W.heap[bo]? := World.putObj_heap_other hne
      have e2 : _ = some _ := hb1
      have e3 : _ = some _ := hb2
      rw [e1, e2] at e3
      injection e3 with e3
      injection e3 with e3
      injection e3 with e3
      injection e3 with e3
      exact e3.symm
    have HOV := Lib.hid (hov2.base (B' := w.heap.size) HWS.out)
    have HBX := Lib.hid hk2.below
    have d1 := hb1.cell 0
    clear hk hk2 hb1 hb2 hov hov2 hK
    go_wp2
    refine ⟨by simp, .inl ⟨_, _, rfl, run_takeDeferred HKD.out, ?_⟩⟩
    refine ⟨v2, ?_, ?_⟩
    · simp [results, Tryz.results93, go_sem]
    · exact ⟨⟨_, rfl, HOV.out⟩, HBX.out⟩
  case stop =>
    rintro D c pre W hD hpre h hK
    exact h.elim
end Go.Proofs.YtnbmbcjnncbaiaaGreatDoor
