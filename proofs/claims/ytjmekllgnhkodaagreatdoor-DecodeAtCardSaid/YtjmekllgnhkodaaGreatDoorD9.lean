/-
  decode.read. Conditions: the library's table as its initialiser lays it; sizes.
-/
import Derived.Test.YtjmekllgnhkodaaGreatDoorD8
namespace Go.Proofs.YtjmekllgnhkodaaGreatDoor
open Go.RowKit Go.Shelf Go.Sort

theorem itF_k4 {l : List UInt8} (h : (itF l).k = 4) : itF l = ⟨4, l.length, [], [], false⟩ := by
  unfold itF itS at h ⊢
  split
  · rfl
  · rename_i h1
    rw [if_neg h1] at h
    split at h
    · rename_i e k he
      unfold itE at h ⊢
      split
      · rfl
      · rename_i h2
        rw [if_neg h2] at h
        exact absurd h (by show ¬ (1 : Int) = 4; decide)
    · rename_i k he
      split at h
      · exact absurd h (by show ¬ (2 : Int) = 4; decide)
      · exact absurd h (by show ¬ (3 : Int) = 4; decide)
/-- what read hands back -/
def ReadP (w : World) (l : List UInt8) (vb : Value) (e : Ending) (w' : World) : Prop :=
  (∃ g v, e = .returned (.tuple #[v, .pointer (some ⟨g, 0, none⟩)]) ∧ ItmR w' w.heap.size (itF l) l v ∧ ((itF l).k = 4 → NeedS w' g vb l)) ∧ RowKit.Below w.heap.size w w'
theorem read_end {tmps : Array Value} {w' : World} {ob xb : Nat} {v0 v1 v2 v3 v4 : Value} {u : Option Addr} (hp : tmps.getD 2 undef = .pointer (some ⟨ob, 0, none⟩)) (hq : tmps.getD 3 undef = .pointer (some ⟨xb, 0, none⟩)) (ho : Blk w' ob tItm #[v0, v1, v2, v3, v4]) (hx : w'.cell? ⟨xb, 0, none⟩ = some (.pointer u)) :
    (results Tryz.f49 tmps).run Tryz.prog w' = .ok (.tuple #[.agg #[v0, v1, v2, v3, v4], .pointer u]) w' := by
  obtain ⟨⟨c0, c1, c2, c3, c4⟩, _⟩ := ho.five
  have hp' : tmps[2]?.getD undef = .pointer (some ⟨ob, 0, none⟩) := by simpa using hp
  have hq' : tmps[3]?.getD undef = .pointer (some ⟨xb, 0, none⟩) := by simpa using hq
  simp [results, Tryz.results49, hp', hq', go_sem, hx, c0, c1, c2, c3, c4]
/-- the door of a read that was cut off -/
theorem read_cut (w wz w4 : World) (p : Blocks) (bb ob xb g : Nat) (ad : Addr) (c : Nat) (l : List UInt8) (tmps : Array Value) (hp : tmps.getD 2 undef = .pointer (some ⟨ob, 0, none⟩)) (hq : tmps.getD 3 undef = .pointer (some ⟨xb, 0, none⟩))
    (hz : Fr w [(xb, 76, #[.pointer (some ⟨g, 0, none⟩)]), (ob, 29, itm0), (bb, 22, #[.slice (some ad) l.length c])] wz) (hb : RowKit.Below wz.heap.size wz w4) (hn : NeedS w4 g (.slice (some ad) l.length c) l) (hk : (itF l).k = 4)
    (hs : SlR byteR w p (.slice (some ad) l.length c) l) (hl : l.length ≤ 1000000) (ho : w.heap.size ≤ ob) (hne : g ≠ ob ∧ xb ≠ ob ∧ bb ≠ ob) :
    bodyPostD Tryz.prog Tryz.f49 (ReadP w l (.slice (some ad) l.length c)) (Exit.panic missP) { tmps := tmps, defers := [{ target := Target.fn (Fn.func 84) #[.pointer (some ⟨xb, 0, none⟩), .pointer (some ⟨bb, 0, none⟩), .pointer (some ⟨ob, 0, none⟩)], args := #[] }] } w4 := by
  obtain ⟨xe, va, qa, vn, vc, qc, k, d, n, hblk, hcase⟩ := hn
  have hF := hz.next hb
  have hF4 : Fr w [(ob, tItm, itm0), (g, tDec, dcC (.slice (some ad) l.length c) (.slice qa (prefF (pgB l)).length qc) xe.pg xe.op ⟨xe.iop.toArray⟩ (.slice va vn vc) ⟨xe.ex.toArray⟩ xe.al k d n), (xb, 76, #[.pointer (some ⟨g, 0, none⟩)]), (bb, 22, #[.slice (some ad) l.length c])] w4 := ⟨hF.below, fun x hx => by
    rcases List.mem_cons.1 hx with e | hx
    · rw [e]; exact hF.blk 1 rfl
    rcases List.mem_cons.1 hx with e | hx
    · rw [e]; exact hblk
    rcases List.mem_cons.1 hx with e | hx
    · rw [e]; exact hF.blk 0 rfl
    · rw [List.mem_singleton.1 hx]; exact hF.blk 2 rfl⟩
  refine leaves_cons (f := 84) (args := #[.pointer (some ⟨xb, 0, none⟩), .pointer (some ⟨bb, 0, none⟩), .pointer (some ⟨ob, 0, none⟩)]) (by simp) (by simp [go_sem]) ?_
  refine (catch_some w p xb bb ob g _ ad c l [] w4 hF4 rfl hs hl ho hne).mono ?_
  rintro e u' w5 ⟨rfl, rfl, ra, rc, hF5, hS5⟩
  have hres := read_end hp hq (hF5.blk 0 rfl) ((hF5.blk 2 rfl).cell 0)
  simp only [Leaves, settle, List.dropWhile]
  refine ⟨_, hres, ⟨g, _, rfl, ?_, fun _ => ⟨xe, va, qa, vn, vc, qc, k, d, n, hF5.blk 1 rfl, hcase⟩⟩, hF5.below⟩
  rw [itF_k4 hk]
  have ht : l.take (⟨4, l.length, [], [], false⟩ : Itm).n = l := List.take_length
  refine ⟨ra, rc, none, 0, ?_, ?_, SlR.nil _ _ _⟩
  · rw [ht]; rfl
  · rw [ht]; exact hS5
/-- the door of a read that came to its end -/
theorem read_ret (w w5 : World) (bb ob xb g : Nat) (vb : Value) (l : List UInt8) (v0 v1 v2 v3 v4 : Value) (tmps : Array Value) (hp : tmps.getD 2 undef = .pointer (some ⟨ob, 0, none⟩)) (hq : tmps.getD 3 undef = .pointer (some ⟨xb, 0, none⟩))
    (ho : Blk w5 ob tItm #[v0, v1, v2, v3, v4]) (hx : w5.cell? ⟨xb, 0, none⟩ = some (.pointer (some ⟨g, 0, none⟩))) (hi : ItmR w5 w.heap.size (itF l) l (.agg #[v0, v1, v2, v3, v4])) (hk : ¬ (itF l).k = 4) (hb : RowKit.Below w.heap.size w w5) :
    bodyPostD Tryz.prog Tryz.f49 (ReadP w l vb) Exit.ret { tmps := tmps, defers := [{ target := Target.fn (Fn.func 84) #[.pointer (some ⟨xb, 0, none⟩), .pointer (some ⟨bb, 0, none⟩), .pointer (some ⟨ob, 0, none⟩)], args := #[] }] } w5 := by
  refine leaves_cons (f := 84) (args := #[.pointer (some ⟨xb, 0, none⟩), .pointer (some ⟨bb, 0, none⟩), .pointer (some ⟨ob, 0, none⟩)]) (by simp) (by simp [go_sem]) ?_
  refine (catch_idle ⟨xb, 0, none⟩ ⟨bb, 0, none⟩ ⟨ob, 0, none⟩ w5).mono ?_
  rintro e u' w6 ⟨rfl, rfl, hw6⟩
  subst w6
  exact ⟨_, read_end hp hq ho hx, ⟨g, _, rfl, hi, fun h => absurd h hk⟩, hb⟩
set_option maxHeartbeats 4000000 in
set_option maxRecDepth 100000 in
theorem read_any (p : Blocks) (a : Option Addr) (c : Nat) (l : List UInt8) (w : World) (hT : Spc w) (hs : SlR byteR w p (.slice a l.length c) l) (h0 : 0 < l.length) (hl : l.length ≤ 1000000) :
    Calls Tryz.prog 49 #[.slice a l.length c] w (ReadP w l (.slice a l.length c)) := by
  obtain ⟨b0, o0, rfl, _, _, _⟩ := byteAt hs h0
  have hmf : ∀ (fn : Fn) (first cap : Array Value) (w : World), (Instr.makeFunc fn first cap).run Tryz.prog w = .ok (.func fn first cap) w := fun _ _ _ _ => rfl
  have h0' : ¬ (l.length : Int) = 0 := by omega
  have HZ := Lib.hid ((((Fr.start w).new' 22 #[.slice (some ⟨b0, o0, none⟩) l.length c] (b := w.heap.size) rfl).new' 29 itm0 (b := w.heap.size + 1) (World.size_alloc _ _)).new' 76 #[.pointer (some ⟨w.heap.size + 1 + 1 + 1, 0, none⟩)] (b := w.heap.size + 1 + 1) (by rw [World.size_alloc, World.size_alloc]))
  obtain ⟨wz, hwz⟩ : ∃ W : World, W = ((w.alloc (.cells #[.slice (some ⟨b0, o0, none⟩) l.length c] 22)).alloc (.cells itm0 29)).alloc (.cells #[.pointer (some ⟨w.heap.size + 1 + 1 + 1, 0, none⟩)] 76) := ⟨_, rfl⟩
  have hzs : wz.heap.size = w.heap.size + 1 + 1 + 1 := by rw [hwz, World.size_alloc, World.size_alloc, World.size_alloc]
  rw [← hwz] at HZ
  have HFg := Lib.hid ((Fr.start wz).new' tDec (dcC (.slice (some ⟨b0, o0, none⟩) l.length c) (.slice none 0 0) 0 0 ⟨#[]⟩ (.slice none 0 0) ⟨#[]⟩ false 0 0 0) (b := w.heap.size + 1 + 1 + 1) hzs)
  have HIT := Lib.hid (fun W h => item_any wz (hT.below HZ.out.below) (w.heap.size + 1 + 1 + 1) (by omega) _ (some ⟨b0, o0, none⟩) c l (hs.old.below HZ.out.below) h0 hl W h)
  have HFW := Lib.hid (HZ.out.next ((Below.refl _ _).alloc (Nat.le_refl _) (.cells (dcC (.slice (some ⟨b0, o0, none⟩) l.length c) (.slice none 0 0) 0 0 ⟨#[]⟩ (.slice none 0 0) ⟨#[]⟩ false 0 0 0) tDec)))
  have HSZ := Lib.hid hzs
  have HSL := Lib.hid hs
  have HL := Lib.hid hl
  clear hT hs hl hzs
  go_enter_defers Tryz.func49, Tryz.ntmps49
  go_upto_region 5 with fail
  rw [← hwz]
  clear hwz
  have HWD : Hid (wz.alloc (.cells #[.slice (some ⟨b0, o0, none⟩) l.length c, .int .i64 0, .slice none 0 0, .int .i64 0, .int .u8 0, .string ⟨#[]⟩, .slice none 0 0, .string ⟨#[]⟩, .bool false, .int .i64 0, .int .i64 0] tDec) = wz.alloc (.cells (dcC (.slice (some ⟨b0, o0, none⟩) l.length c) (.slice none 0 0) 0 0 ⟨#[]⟩ (.slice none 0 0) ⟨#[]⟩ false 0 0 0) tDec)) := Lib.hid rfl
  rw [HWD.out]
  generalize wz.alloc (.cells (dcC (.slice (some ⟨b0, o0, none⟩) l.length c) (.slice none 0 0) 0 0 ⟨#[]⟩ (.slice none 0 0) ⟨#[]⟩ false 0 0 0) tDec) = W at *
  clear HWD
  have HFgd := Lib.hid HFg.out.drew
  have x0 : W.cell? ⟨w.heap.size + 1 + 1, 0, none⟩ = some (.pointer (some ⟨w.heap.size + 1 + 1 + 1, 0, none⟩)) := (HFW.out.blk 0 rfl).cell 0
  by_cases hk : (itF l).k = 4
  · have HK := Lib.hid hk
    clear hk
    refine wp_region_any (by kernel_rfl) ?_
    change wpAny _ _ _ _ _ _ _ (World.drew _)
    refine wpAny_ready (rs := [0, 2]) (by kernel_rfl) (by simp) ?_
    refine AllReady.cons rfl (fun K hK => ?_) ?_
    · go_simp
      refine hK _ _ ?_
      clear hK K
      refine wpAny_ready (rs := [1, 2]) (by kernel_rfl) (by simp) ?_
      refine AllReady.cons rfl (fun K hK => ?_) ?_
      · go_simp
        (go_at_call 86; refine (HIT.out _ HFgd.out).mono ?_; rintro e w4 ⟨hb4, hi4⟩; rw [if_pos HK.out] at hi4; obtain ⟨rfl, hn4⟩ := hi4; exact read_cut w wz w4 p w.heap.size (w.heap.size + 1) (w.heap.size + 1 + 1) (w.heap.size + 1 + 1 + 1) ⟨b0, o0, none⟩ c l _ rfl rfl HZ.out hb4 hn4 HK.out HSL.out HL.out (by omega) (by omega))
      refine AllReady.cons rfl (fun K hK => ?_) AllReady.nil
      go_simp
      refine hK _ _ ?_
      clear hK K
      refine wpAny_ready (rs := [1]) (by kernel_rfl) (by simp) ?_
      refine AllReady.cons rfl (fun K hK => ?_) AllReady.nil
      go_simp
      (go_at_call 86; refine (HIT.out _ HFgd.out).mono ?_; rintro e w4 ⟨hb4, hi4⟩; rw [if_pos HK.out] at hi4; obtain ⟨rfl, hn4⟩ := hi4; exact read_cut w wz w4 p w.heap.size (w.heap.size + 1) (w.heap.size + 1 + 1) (w.heap.size + 1 + 1 + 1) ⟨b0, o0, none⟩ c l _ rfl rfl HZ.out hb4 hn4 HK.out HSL.out HL.out (by omega) (by omega))
    refine AllReady.cons rfl (fun K hK => ?_) AllReady.nil
    go_simp
    refine hK _ _ ?_
    clear hK K
    refine wpAny_ready (rs := [0]) (by kernel_rfl) (by simp) ?_
    refine AllReady.cons rfl (fun K hK => ?_) AllReady.nil
    go_simp
    refine hK _ _ ?_
    clear hK K
    refine wpAny_ready (rs := [1]) (by kernel_rfl) (by simp) ?_
    refine AllReady.cons rfl (fun K hK => ?_) AllReady.nil
    go_simp
    (go_at_call 86; refine (HIT.out _ HFgd.out).mono ?_; rintro e w4 ⟨hb4, hi4⟩; rw [if_pos HK.out] at hi4; obtain ⟨rfl, hn4⟩ := hi4; exact read_cut w wz w4 p w.heap.size (w.heap.size + 1) (w.heap.size + 1 + 1) (w.heap.size + 1 + 1 + 1) ⟨b0, o0, none⟩ c l _ rfl rfl HZ.out hb4 hn4 HK.out HSL.out HL.out (by omega) (by omega))
  · have HK := Lib.hid hk
    clear hk
    obtain ⟨R1, hR1⟩ : ∃ R, R = l.take (itF l).n := ⟨_, rfl⟩
    have HR1 := Lib.hid hR1
    clear hR1
    go_region_law ((go_simp; (go_at_call 86; refine (HIT.out _ HFgd.out).mono ?_; rintro e w4 ⟨hb4, hi4⟩; rw [if_neg HK.out] at hi4; obtain ⟨_, v4, rfl, hi5⟩ := hi4; obtain ⟨ra, rc, va, vc, rfl, h1, h2⟩ := hi5; rw [← HR1.out] at h1 ⊢; have H1 := Lib.hid h1; have H2 := Lib.hid h2; have HF4 := Lib.hid (HZ.out.next hb4); obtain ⟨⟨c0, c1, c2, c3, c4⟩, f0, f1, f2, f3, f4⟩ := (HF4.out.blk 1 rfl).five; clear x0; have x0 : w4.cell? ⟨w.heap.size + 1 + 1, 0, none⟩ = some (.pointer (some ⟨w.heap.size + 1 + 1 + 1, 0, none⟩)) := (HF4.out.blk 0 rfl).cell 0; have z0 := (HF4.out.blk 0 rfl).free 0; clear h1 h2 hb4; unfold itmV); dsimp only))
    all_goals go_wp2
    all_goals have HM : ItmR w4 wz.heap.size (itF l) l (.agg #[.int .i64 (itF l).k, .slice ra R1.length rc, .string ⟨(itF l).op.toArray⟩, .slice va (itF l).args.length vc, .bool (itF l).al]) := ⟨ra, rc, va, vc, by rw [← HR1.out]; rfl, by rw [← HR1.out]; exact H1.out, H2.out⟩
    all_goals have hb1 : w.heap.size + 1 < wz.heap.size := by rw [HSZ.out]; omega
    all_goals have hb2 : w.heap.size + 1 + 1 < wz.heap.size := by rw [HSZ.out]; omega
    all_goals have hb3 : w.heap.size ≤ wz.heap.size := by omega
    all_goals have FA := ((HF4.out.swap.set5 (by omega) (fun x hx => by rcases List.mem_cons.1 hx with e | hx; rw [e]; show w.heap.size + 1 + 1 ≠ w.heap.size + 1; omega; rw [List.mem_singleton.1 hx]; show w.heap.size ≠ w.heap.size + 1; omega) (.int .i64 (itF l).k) (.slice ra R1.length rc) (.string ⟨(itF l).op.toArray⟩) (.slice va (itF l).args.length vc) (.bool (itF l).al)).swap).set (by omega) (fun x hx => by rcases List.mem_cons.1 hx with e | hx; rw [e]; show w.heap.size + 1 ≠ w.heap.size + 1 + 1; omega; rw [List.mem_singleton.1 hx]; show w.heap.size ≠ w.heap.size + 1 + 1; omega) 0 (.pointer (some ⟨w.heap.size + 1 + 1 + 1, 0, none⟩))
    all_goals have FB := ((HF4.out.set (by omega) (fun x hx => by rcases List.mem_cons.1 hx with e | hx; rw [e]; show w.heap.size + 1 ≠ w.heap.size + 1 + 1; omega; rw [List.mem_singleton.1 hx]; show w.heap.size ≠ w.heap.size + 1 + 1; omega) 0 (.pointer (some ⟨w.heap.size + 1 + 1 + 1, 0, none⟩))).swap.set5 (by omega) (fun x hx => by rcases List.mem_cons.1 hx with e | hx; rw [e]; show w.heap.size + 1 + 1 ≠ w.heap.size + 1; omega; rw [List.mem_singleton.1 hx]; show w.heap.size ≠ w.heap.size + 1; omega) (.int .i64 (itF l).k) (.slice ra R1.length rc) (.string ⟨(itF l).op.toArray⟩) (.slice va (itF l).args.length vc) (.bool (itF l).al))
    all_goals first
      | exact read_ret w _ w.heap.size (w.heap.size + 1) (w.heap.size + 1 + 1) (w.heap.size + 1 + 1 + 1) _ l _ _ _ _ _ _ rfl rfl (FA.blk 1 rfl) ((FA.blk 0 rfl).cell 0) (((HM.off5 hb1 _ _ _ _ _).off hb2 0 _).base hb3) HK.out FA.below
      | exact read_ret w _ w.heap.size (w.heap.size + 1) (w.heap.size + 1 + 1) (w.heap.size + 1 + 1 + 1) _ l _ _ _ _ _ _ rfl rfl (FB.blk 0 rfl) ((FB.blk 1 rfl).cell 0) (((HM.off hb2 0 _).off5 hb1 _ _ _ _ _).base hb3) HK.out FB.below
end Go.Proofs.YtjmekllgnhkodaaGreatDoor
