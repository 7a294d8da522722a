/-
  (*decode.decoder).item. Conditions: the library's table as its initialiser lays it; sizes.
-/
import Derived.Test.YtjmekllgnhkodaaGreatDoorD6
namespace Go.Proofs.YtjmekllgnhkodaaGreatDoor
open Go.RowKit Go.Shelf Go.Sort

abbrev tEnt : TypeId := 50
theorem PgI.go' {p m : Nat} {l : List UInt8} (h : PgI p l) (e : pos p = m) (hl : m < l.length) (hs : isPre p (bAt l m) = true) : PgI (nx p (bAt l m)) l ∧ p < nx p (bAt l m) ∧ prefF (nx p (bAt l m)) = prefF p ++ [l[m]] := by
  subst e; exact h.go hl hs
/-- how many prefixes are still to come -/
def preLeft (w : World) (g : Nat) : Nat := match w.cell? ⟨g, 2, none⟩ with | some (.slice _ n _) => 3 - n | _ => 0
theorem preLeft_eq {w : World} {g : Nat} {a : Option Addr} {n c : Nat} (h : w.cell? ⟨g, 2, none⟩ = some (.slice a n c)) : preLeft w g = 3 - n := by unfold preLeft; rw [h]
theorem Fr.grownO {w0 W W' : World} {L : List (Nat × TypeId × Array Value)} {row : Option Nat} (h : Fr w0 L W) (hg : W.grownBy W' row) (hz : ∀ k, row = some k → w0.heap.size ≤ k) (hn : ∀ x ∈ L, some x.1 ≠ row) : Fr w0 L W' :=
  ⟨h.below.grown hg h.below.size hz, fun x hx => (h.at' x hx).grown hg (hn x hx)⟩
theorem Fr.rot {w0 W : World} {a b d : Nat × TypeId × Array Value} (h : Fr w0 [a, b, d] W) : Fr w0 [b, d, a] W := h.sub (fun x hx => by
  rcases List.mem_cons.1 hx with e | hx
  · rw [e]; simp
  · rcases List.mem_cons.1 hx with e | hx
    · rw [e]; simp
    · rw [List.mem_singleton.1 hx]; simp)
theorem Fr.set5 {w0 W : World} {L : List (Nat × TypeId × Array Value)} {b : Nat} {t : TypeId} {x0 x1 x2 x3 x4 : Value} (h : Fr w0 ((b, t, #[x0, x1, x2, x3, x4]) :: L) W) (hb : w0.heap.size ≤ b) (hn : ∀ x ∈ L, x.1 ≠ b) (u0 u1 u2 u3 u4 : Value) :
    Fr w0 ((b, t, #[u0, u1, u2, u3, u4]) :: L) (((((W.setCell ⟨b, 0, none⟩ u0).setCell ⟨b, 1, none⟩ u1).setCell ⟨b, 2, none⟩ u2).setCell ⟨b, 3, none⟩ u3).setCell ⟨b, 4, none⟩ u4) := ((((h.set hb hn 0 u0).set hb hn 1 u1).set hb hn 2 u2).set hb hn 3 u3).set hb hn 4 u4
theorem ItmR.off {w : World} {B b : Nat} {x : Itm} {l : List UInt8} {v : Value} (h : ItmR w B x l v) (hb : b < B) (i : Nat) (u : Value) : ItmR (w.setCell ⟨b, i, none⟩ u) B x l v := by
  obtain ⟨ra, rc, va, vc, e, h1, h2⟩ := h
  exact ⟨ra, rc, va, vc, e, h1.keep (Keep.setCell (fun k hk => by show k ≠ b; omega) _), h2.keep (Keep.setCell (fun k hk => by show k ≠ b; omega) _)⟩
theorem ItmR.off5 {w : World} {B b : Nat} {x : Itm} {l : List UInt8} {v : Value} (h : ItmR w B x l v) (hb : b < B) (u0 u1 u2 u3 u4 : Value) : ItmR (((((w.setCell ⟨b, 0, none⟩ u0).setCell ⟨b, 1, none⟩ u1).setCell ⟨b, 2, none⟩ u2).setCell ⟨b, 3, none⟩ u3).setCell ⟨b, 4, none⟩ u4) B x l v :=
  ((((h.off hb 0 _).off hb 1 _).off hb 2 _).off hb 3 _).off hb 4 _
theorem Blk.eleven {w : World} {g : Nat} {t : TypeId} {x0 x1 x2 x3 x4 x5 x6 x7 x8 x9 x10 : Value} (h : Blk w g t #[x0, x1, x2, x3, x4, x5, x6, x7, x8, x9, x10]) :
    (w.cell? ⟨g, 3, none⟩ = some x3 ∧ w.cell? ⟨g, 4, none⟩ = some x4 ∧ w.cell? ⟨g, 5, none⟩ = some x5 ∧ w.cell? ⟨g, 6, none⟩ = some x6 ∧ w.cell? ⟨g, 7, none⟩ = some x7 ∧ w.cell? ⟨g, 8, none⟩ = some x8) ∧
    w.frozen? ⟨g, 3, none⟩ = false ∧ w.frozen? ⟨g, 4, none⟩ = false ∧ w.frozen? ⟨g, 5, none⟩ = false ∧ w.frozen? ⟨g, 6, none⟩ = false ∧ w.frozen? ⟨g, 7, none⟩ = false ∧ w.frozen? ⟨g, 8, none⟩ = false :=
  ⟨⟨h.cell 3, h.cell 4, h.cell 5, h.cell 6, h.cell 7, h.cell 8⟩, h.free 3, h.free 4, h.free 5, h.free 6, h.free 7, h.free 8⟩
theorem itF_no0 {q : Nat} {l : List UInt8} (hq : pgB l = q) (h : ¬ l.length ≤ pos q) (ha : atF q (bAt l (pos q)) = (none, 0)) : itF l = ⟨2, 1, [], [], false⟩ := by unfold itF itS; rw [hq, if_neg h, ha]; rfl
theorem itF_no3 {q m : Nat} {l : List UInt8} (hm : m = 1) (hq : pgB l = q) (h : ¬ l.length ≤ pos q) (ha : atF q (bAt l (pos q)) = (none, 3)) : itF l = ⟨3, m + 1, [], [], false⟩ := by subst hm; unfold itF itS; rw [hq, if_neg h, ha]; rfl
theorem itF_e {q : Nat} {l : List UInt8} {e : EntV} {k : Int} (hq : pgB l = q) (h : ¬ l.length ≤ pos q) (ha : atF q (bAt l (pos q)) = (some e, k)) : itF l = itE q e l := by unfold itF itS; rw [hq, if_neg h, ha]
theorem Blk.cell6 {w : World} {b : Nat} {t : TypeId} {x0 x1 x2 x3 x4 x5 : Value} (h : Blk w b t #[x0, x1, x2, x3, x4, x5]) :
    w.cell? ⟨b, 0, none⟩ = some x0 ∧ w.cell? ⟨b, 1, none⟩ = some x1 ∧ w.cell? ⟨b, 2, none⟩ = some x2 ∧ w.cell? ⟨b, 3, none⟩ = some x3 ∧ w.cell? ⟨b, 4, none⟩ = some x4 ∧ w.cell? ⟨b, 5, none⟩ = some x5 :=
  ⟨h.cell 0, h.cell 1, h.cell 2, h.cell 3, h.cell 4, h.cell 5⟩
theorem SlR.offG {α : Type} {R : Rep α} {w : World} {ob g : Nat} {v : Value} {xs : List α} (h : SlR R w (fun k => ob + 1 ≤ k) v xs) (hg : g < ob) (i : Nat) (u : Value) : SlR R (w.setCell ⟨g, i, none⟩ u) (fun k => ob + 1 ≤ k) v xs :=
  h.keep (Keep.setCell (fun k hk => by show k ≠ g; omega) _)
theorem ItmR.full {w w7 : World} {ob : Nat} {k : Int} {n : Nat} {op : List UInt8} {args : List Opd} {al : Bool} {l R : List UInt8} {ra va : Option Addr} {rc vc : Nat} (ho : Own byteR w w7.heap.size 5 NoB (.slice ra R.length rc) R) (hR : R = l.take n) (ha : SlR opdR w (fun k => ob + 1 ≤ k) (.slice va args.length vc) args) (hB : ob < w7.heap.size) : ItmR w (ob + 1) ⟨k, n, op, args, al⟩ l (.agg #[.int .i64 k, .slice ra R.length rc, .string ⟨op.toArray⟩, .slice va args.length vc, .bool al]) := by
  subst hR
  exact ⟨ra, rc, va, vc, rfl, Own.slR ho (fun _ h => h.elim) (fun _ hk => Nat.le_trans hB hk), ha⟩
theorem ItmR.bare {w : World} {B B' : Nat} {k : Int} {n : Nat} {l R : List UInt8} {ra : Option Addr} {rc : Nat} (ho : Own byteR w B 5 NoB (.slice ra R.length rc) R) (hR : R = l.take n) (hB : B' ≤ B) : ItmR w B' ⟨k, n, [], [], false⟩ l (.agg #[.int .i64 k, .slice ra R.length rc, .string ⟨#[]⟩, .slice none 0 0, .bool false]) := by
  subst hR
  exact ⟨ra, rc, none, 0, rfl, Own.slR ho (fun _ h => h.elim) (fun _ hk => Nat.le_trans hB hk), SlR.nil _ _ _⟩
set_option maxHeartbeats 16000000 in
set_option maxRecDepth 100000 in
theorem item_any (wz : World) (hT : Spc wz) (g : Nat) (hg : wz.heap.size ≤ g) (p : Blocks) (a : Option Addr) (c : Nat) (l : List UInt8) (hs : SlR byteR wz p (.slice a l.length c) l) (h0 : 0 < l.length) (hl : l.length ≤ 1000000) (w : World)
    (h : Fr wz [(g, tDec, dcC (.slice a l.length c) (.slice none 0 0) 0 0 ⟨#[]⟩ (.slice none 0 0) ⟨#[]⟩ false 0 0 0)] w) :
    Calls Tryz.prog 86 #[.pointer (some ⟨g, 0, none⟩)] w (IteP wz g (.slice a l.length c) l) := by
  obtain ⟨b0, o0, rfl, _, _, _⟩ := byteAt hs h0
  have HS := Lib.hid (fun W (hb : RowKit.Below wz.heap.size wz W) => hs.old.below hb)
  have HTS := Lib.hid (fun W (hb : RowKit.Below wz.heap.size wz W) => hT.below hb)
  have HP : Hid (∀ b, p b ∧ b < wz.heap.size → b ≠ g) := Lib.hid (fun b hb => by omega)
  have HL := Lib.hid hl
  have H0 := Lib.hid h0
  have HG := Lib.hid hg
  have HGW := Lib.hid ((h.blk 0 rfl).lt)
  have HF0 := Lib.hid ((h.new 29 itm0).swap)
  have HB0 := Lib.hid (show w.heap.size + 1 ≤ (w.alloc (.cells itm0 29)).heap.size by rw [World.size_alloc]; omega)
  clear hs hT hl hg h
  obtain ⟨W0, hW0⟩ : ∃ W : World, W = w.alloc (.cells itm0 29) := ⟨_, rfl⟩
  rw [← hW0] at HF0 HB0
  obtain ⟨ob, hob⟩ : ∃ b, b = w.heap.size := ⟨_, rfl⟩
  rw [← hob] at HF0 HGW HB0
  have HGO : Hid (g ≠ ob) := Lib.hid (by have := HGW.out; omega)
  have HON : Hid (∀ x ∈ [(ob, 29, itm0)], x.1 ≠ g) := Lib.hid (fun x hx => by rw [List.mem_singleton.1 hx]; exact fun e => HGO.out e.symm)
  have HOG : Hid (wz.heap.size ≤ ob) := Lib.hid (by have := HGW.out; have := HG.out; omega)
  go_enter Tryz.func86, Tryz.ntmps86
  go_wp2
  rw [← hW0, ← hob]
  have HOB := Lib.hid hob
  clear hW0 hob
  go_loopw [3, 4, 5, 6, 7, 8, 9, 10] (fun _ _ _ _ _ _ _ _ wr => ∃ (q : Nat) (qa : Option Addr) (qc : Nat), PgI q l ∧ Fr wz [(g, tDec, dcC (.slice (some ⟨b0, o0, none⟩) l.length c) (.slice qa (prefF q).length qc) 0 0 ⟨#[]⟩ (.slice none 0 0) ⟨#[]⟩ false (prefF q).length 0 0), (ob, 29, itm0)] wr ∧ ob + 1 ≤ wr.heap.size ∧ Own byteR wr (ob + 1) 5 NoB (.slice qa (prefF q).length qc) (prefF q)) (fun _ _ _ _ _ _ _ _ wr => preLeft wr g)
  case atStart => exact ⟨0, none, 0, pgI0 l, HF0.out, HB0.out, Own.nil _ _ _ _ _⟩
  case round =>
    obtain ⟨q, qa, qc, hI, hF, hZ, hO⟩ := hrel
    clear HF0 HB0
    have HI := Lib.hid hI
    have HF := Lib.hid hF
    have HZ := Lib.hid hZ
    have HO := Lib.hid hO
    have HPF : Hid (pageF (prefF q) 7 0 = some q) := Lib.hid (prefs ⟨q, hI.lt⟩)
    have HPG := Lib.hid (fun W (hb : RowKit.Below wr.heap.size wr W) => PageOf_any _ _ _ W ((Own.slR (q := fun k => ob + 1 ≤ k) HO.out (fun _ h => h.elim) (fun _ h => h)).below hb))
    rw [HPF.out] at HPG
    dsimp only [Option.getD_some, Option.isSome_some] at HPG
    have HML : Hid (preLeft wr g = 3 - (prefF q).length) := Lib.hid (preLeft_eq ((HF.out.blk 0 rfl).cell 2))
    have f2 : wr.cell? ⟨g, 2, none⟩ = some (.slice qa (prefF q).length qc) := (HF.out.blk 0 rfl).cell 2
    have hq7 := hI.lt
    have HP0 : Hid (pos q = (prefF q).length + (if 5 ≤ q then 1 else 0)) := Lib.hid rfl
    have hm3 : (prefF q).length ≤ 2 := prefF_len9 q
    clear hI hF hZ hO
    by_cases h5 : 5 ≤ q
    · have h5' : (5 : Int) ≤ (q : Int) := by omega
      rw [if_pos h5] at HP0
      have HMM0 : Hid ((prefF q).length = 2) := Lib.hid (by have : q = 5 ∨ q = 6 := by omega
                                                            rcases this with rfl | rfl <;> rfl)
      have HLE := Lib.hid HI.out.le
      generalize hm : (prefF q).length = m at *
      have HM2 := HMM0
      have HMM := Lib.hid hm
      clear hm HMM0
      obtain ⟨SD, hSD⟩ : ∃ d : Int, d = sg (bAt l m) := ⟨_, rfl⟩
      have HSD := Lib.hid hSD
      have HXD : Hid (∀ W, Blk W g tDec (dcC (.slice (some ⟨b0, o0, none⟩) l.length c) (.slice qa m qc) 0 0 ⟨#[]⟩ (.slice none 0 0) ⟨#[]⟩ false m 0 0) → RowKit.Below wz.heap.size wz W → Calls Tryz.prog 129 #[.pointer (some ⟨g, 0, none⟩), .string ⟨#[100]⟩] W (ExtP W g (dcC (.slice (some ⟨b0, o0, none⟩) l.length c) (.slice qa m qc) 0 0 ⟨#[]⟩ (.slice none 0 0) ⟨#[]⟩ false) l.length (m + 1) (SD, 0))) := Lib.hid (fun W h1 h2 => by
        have h := extra_any g (some ⟨b0, o0, none⟩) c (.slice qa m qc) 0 0 ⟨#[]⟩ (.slice none 0 0) ⟨#[]⟩ false ⟨#[100]⟩ (fun k hk => .inl (by have hk : k < 1 := hk; obtain rfl : k = 0 := by omega
                                                                                                                                              rfl)) (by decide) _ l HP.out HL.out m HLE.out 0 0 W h1 (HS.out _ h2)
        rw [show (⟨#[100]⟩ : ByteArray).data.toList = [100] from rfl, show rdN [100] = 1 from by decide, show rdF [100] l m 0 0 = (SD, 0) from by rw [rdF, if_pos rfl, rdF, hSD]] at h
        exact h)
      clear hSD
      by_cases hA : l.length ≤ m + 1
      · have HQ := Lib.hid (HI.out.stop H0.out (.inl (by rw [HP0.out]; exact hA)))
        have HIK : Hid ((itF l).k = 4) := Lib.hid (by unfold itF; rw [HQ.out]; unfold itS; rw [if_pos (by rw [HP0.out]; exact hA)])
        have HPA : Hid (l.length ≤ pos (pgB l)) := Lib.hid (by rw [HQ.out, HP0.out]; exact hA)
        by_cases hB : m + 1 ≤ l.length
        · have HMP1 := Lib.hid hB
          clear hB
          go_wp2_with (first
            | (go_at_call 128; refine (HPG.out _ (Below.refl _ _)).mono ?_; rintro e w1 ⟨rfl, hb⟩; have HF1 := Lib.hid (HF.out.next hb); have HO1 := Lib.hid (HO.out.stay hb); have HZ1 := Lib.hid (Nat.le_trans HZ.out hb.size); clear hb)
            | (go_at_call 129; refine (HXD.out _ (HF1.out.blk 0 rfl) HF1.out.below).mono ?_; rintro e w9 ⟨hg9, hx9⟩; rw [if_pos HMP1.out] at hx9; obtain ⟨rfl, hb9⟩ := hx9; have HFX := Lib.hid (show Fr wz [(g, tDec, dcC (.slice (some ⟨b0, o0, none⟩) l.length c) (.slice qa m qc) 0 0 ⟨#[]⟩ (.slice none 0 0) ⟨#[]⟩ false (m + 1) SD 0), (ob, 29, itm0)] w9 from HF1.out.grow hg9 hb9 HG.out HON.out); have HZX := Lib.hid (Nat.le_trans HZ1.out hg9.size); clear hg9 hb9)
            | (go_at_call 130; refine (dtake_no g _ (some ⟨b0, o0, none⟩) l.length c (m + 1) _ (HFX.out.blk 0 rfl) rfl rfl hA).mono ?_; rintro e w2 ⟨rfl, hb⟩; have HF2 := Lib.hid (HFX.out.next hb); clear hb))
          exact ⟨rfl, IteP.cut HIK.out HF2.out.below ⟨⟨0, 0, [], [], [], false⟩, none, qa, 0, 0, qc, m + 1, SD, 0, by rw [HQ.out, HMM.out]; exact HF2.out.blk 0 rfl, .inl ⟨rfl, HPA.out⟩⟩⟩
        · have HNB := Lib.hid hB
          clear hB
          go_wp2_with (first
            | (go_at_call 128; refine (HPG.out _ (Below.refl _ _)).mono ?_; rintro e w1 ⟨rfl, hb⟩; have HF1 := Lib.hid (HF.out.next hb); have HO1 := Lib.hid (HO.out.stay hb); have HZ1 := Lib.hid (Nat.le_trans HZ.out hb.size); clear hb)
            | (go_at_call 129; refine (HXD.out _ (HF1.out.blk 0 rfl) HF1.out.below).mono ?_; rintro e w9 ⟨hg9, hx9⟩; rw [if_neg HNB.out] at hx9; obtain ⟨rfl, kx, dx, nx, hb9⟩ := hx9; have HF2 := Lib.hid (HF1.out.grow hg9 hb9 HG.out HON.out); clear hg9 hb9))
          exact ⟨rfl, IteP.cut HIK.out HF2.out.below ⟨⟨0, 0, [], [], [], false⟩, none, qa, 0, 0, qc, kx, dx, nx, by rw [HQ.out, HMM.out]; exact HF2.out.blk 0 rfl, .inl ⟨rfl, HPA.out⟩⟩⟩
      · have HMP : Hid (m + 1 < l.length) := Lib.hid (by omega)
        have HMP1 : Hid (m + 1 ≤ l.length) := Lib.hid (by omega)
        have hpr : isPre q (bAt l (m + 1)) = false := by
          have : q = 5 ∨ q = 6 := by omega
          rcases this with e | e <;> rw [e] <;> simp [isPre]
        have HAT := Lib.hid (fun W hW => At_any q (bAt l (m + 1)) (bAt_lt l (m + 1)) W hW)
        have HQ := Lib.hid (HI.out.stop H0.out (.inr (by rw [HP0.out]; exact hpr)))
        have HNP : Hid (¬ l.length ≤ pos q) := Lib.hid (by rw [HP0.out]; exact hA)
        cases hat : atF q (bAt l (m + 1)) with
        | mk oe kk =>
        rw [hat] at HAT
        cases oe with
        | none => exact absurd (at_none hq7 (bAt_lt l (m + 1)) hpr hat) (by omega)
        | some ev =>
          have HE1 := Lib.hid (at_some hq7 (bAt_lt l (m + 1)) hat)
          obtain rfl := HE1.out.1
          have HEW := Lib.hid (entW_at hq7 (bAt_lt l (m + 1)) (by rw [hat]))
          have HOK := Lib.hid (ent_at (bAt_lt l (m + 1)) (by rw [hat]))
          have HIF := Lib.hid (itF_e HQ.out HNP.out (by rw [HP0.out]; exact hat))
          have HX1 : Hid (ev.ex = [100]) := Lib.hid (HE1.out.2.2.resolve_left (by omega))
          have HSZ : Hid (sizF ev = m + 1 + 1) := Lib.hid (by unfold sizF; rw [HEW.out.2.1, HMM.out, HX1.out]; rfl)
          have HNB : Hid (numB q ev l = (SD, 0)) := Lib.hid (by unfold numB; rw [if_pos h5, HX1.out, ← HM2.out, rdF, if_pos rfl, rdF, HSD.out])
          clear hat HE1 HX1
          have HFI := Lib.hid (fun d n v W h => FillI_any ev HOK.out d n (fun k => ob + 1 ≤ k) v W h)
          have HIN : Hid (itE q ev l = if l.length < sizF ev then ⟨4, l.length, [], [], false⟩ else ⟨1, sizF ev, (insF ev (numB q ev l).1 (numB q ev l).2).1, (insF ev (numB q ev l).1 (numB q ev l).2).2, ev.al⟩) := Lib.hid rfl
          rw [HNB.out, HSZ.out] at HIN
          dsimp only at HIN
          have HFJ := Lib.hid (fun v W h => HFI.out SD 0 v W h)
          have HIA : Hid (∃ IW IA, (insF ev SD 0).1 = IW ∧ (insF ev SD 0).2 = IA) := Lib.hid ⟨_, _, rfl, rfl⟩
          obtain ⟨IW, IA, hIO, hIA⟩ := HIA.out
          rw [hIO, hIA] at HFJ HIN
          clear hIO hIA HIA HFI HOK HEW
          obtain ⟨K9, hK9⟩ : ∃ K, K = m + 1 + 1 := ⟨_, rfl⟩
          rw [← hK9] at HIN
          have HK9 := Lib.hid hK9
          clear hK9 HSZ
          obtain ⟨p1, o1, i1, l1, s1, f1⟩ := ev
          dsimp only at *
          unfold entVal at HFJ
          dsimp only at HFJ
          go_upto_region 14 with (first
            | (go_at_call 128; refine (HPG.out _ (Below.refl _ _)).mono ?_; rintro e w1 ⟨rfl, hb⟩; have HF1 := Lib.hid (HF.out.next hb); have HO1 := Lib.hid (HO.out.stay hb); have HZ1 := Lib.hid (Nat.le_trans HZ.out hb.size); clear hb)
            | (go_at_call 129; refine (HXD.out _ (HF1.out.blk 0 rfl) HF1.out.below).mono ?_; rintro e w9 ⟨hg9, hx9⟩; rw [if_pos HMP1.out] at hx9; obtain ⟨rfl, hb9⟩ := hx9; have HFX := Lib.hid (show Fr wz [(g, tDec, dcC (.slice (some ⟨b0, o0, none⟩) l.length c) (.slice qa m qc) 0 0 ⟨#[]⟩ (.slice none 0 0) ⟨#[]⟩ false (m + 1) SD 0), (ob, 29, itm0)] w9 from HF1.out.grow hg9 hb9 HG.out HON.out); have HZX := Lib.hid (Nat.le_trans HZ1.out hg9.size); clear hg9 hb9)
            | (go_at_call 130; refine (dtake_yes g _ _ (some ⟨b0, o0, none⟩) c l (m + 1) _ (HFX.out.blk 0 rfl) rfl rfl (HS.out _ HFX.out.below) HP.out HMP.out HL.out).mono ?_; rintro e w2 ⟨rfl, hk2, hg2⟩; have HF2 := Lib.hid (show Fr wz [(g, tDec, dcC (.slice (some ⟨b0, o0, none⟩) l.length c) (.slice qa m qc) 0 0 ⟨#[]⟩ (.slice none 0 0) ⟨#[]⟩ false (m + 1 + 1) SD 0), (ob, 29, itm0)] w2 from HFX.out.grow hg2 hk2 HG.out HON.out); have HZ2 := Lib.hid (Nat.le_trans HZX.out hg2.size); clear hk2 hg2)
            | (go_at_call 33; refine (HAT.out _ (HTS.out _ HF2.out.below)).mono ?_; rintro e w3 ⟨⟨v3, rfl, ho3⟩, hb⟩; obtain ⟨va, vc, rfl⟩ : ∃ a c, v3 = .slice a l1.length c := ho3.form; have HEB : Hid (g ≠ w3.heap.size ∧ ob < w3.heap.size) := Lib.hid (by have := ((HF2.out.next hb).blk 0 rfl).lt; have := ((HF2.out.next hb).blk 1 rfl).lt; omega); have HF3 := Lib.hid (((HF2.out.next hb).new' tEnt #[.int .i64 p1, .int .u8 o1, .string ⟨i1.toArray⟩, .slice va l1.length vc, .string ⟨s1.toArray⟩, .bool f1] (b := w3.heap.size) rfl).rot); have HA3 := Lib.hid ((ho3.slR.mono (q := fun k => ob + 1 ≤ k) (fun k hk => Nat.le_trans HZ2.out hk)).below ((Below.refl _ _).alloc (Nat.le_refl _) (.cells #[.int .i64 p1, .int .u8 o1, .string ⟨i1.toArray⟩, .slice va l1.length vc, .string ⟨s1.toArray⟩, .bool f1] tEnt))); clear hb ho3; unfold entVal; dsimp only))
          generalize w3.alloc (.cells #[.int .i64 p1, .int .u8 o1, .string ⟨i1.toArray⟩, .slice va l1.length vc, .string ⟨s1.toArray⟩, .bool f1] tEnt) = W3 at *
          generalize w3.heap.size = eb at *
          have HON3 : Hid (∀ x ∈ [(ob, 29, itm0), (eb, tEnt, #[.int .i64 p1, .int .u8 o1, .string ⟨i1.toArray⟩, .slice va l1.length vc, .string ⟨s1.toArray⟩, .bool f1])], x.1 ≠ g) := Lib.hid (fun x hx => by rcases List.mem_cons.1 hx with e | hx; rw [e]; exact fun e => HGO.out e.symm; rw [List.mem_singleton.1 hx]; exact fun e => HEB.out.1 e.symm)
          obtain ⟨d0, d1, d2, d3, d4, d5⟩ := (HF3.out.blk 2 rfl).cell6
          obtain ⟨⟨g3, g4, g5, g6, g7, g8⟩, z3, z4, z5, z6, z7, z8⟩ := (HF3.out.blk 0 rfl).eleven
          go_upto_region 15 with fail
          try rw [show decide ((5 : Int) ≤ (q : Int)) = true from decide_eq_true (by omega)]
          have HF4 := Lib.hid (show Fr wz [(g, tDec, dcC (.slice (some ⟨b0, o0, none⟩) l.length c) (.slice qa m qc) p1 o1 ⟨i1.toArray⟩ (.slice va l1.length vc) ⟨s1.toArray⟩ f1 (m + 1 + 1) SD 0), (ob, 29, itm0), (eb, tEnt, #[.int .i64 p1, .int .u8 o1, .string ⟨i1.toArray⟩, .slice va l1.length vc, .string ⟨s1.toArray⟩, .bool f1])] ((((((W3.setCell ⟨g, 3, none⟩ (.int .i64 p1)).setCell ⟨g, 4, none⟩ (.int .u8 o1)).setCell ⟨g, 5, none⟩ (.string ⟨i1.toArray⟩)).setCell ⟨g, 6, none⟩ (.slice va l1.length vc)).setCell ⟨g, 7, none⟩ (.string ⟨s1.toArray⟩)).setCell ⟨g, 8, none⟩ (.bool f1)) from (((((HF3.out.set HG.out HON3.out 3 _).set HG.out HON3.out 4 _).set HG.out HON3.out 5 _).set HG.out HON3.out 6 _).set HG.out HON3.out 7 _).set HG.out HON3.out 8 _)
          have HA4 := Lib.hid (show SlR opdR ((((((W3.setCell ⟨g, 3, none⟩ (.int .i64 p1)).setCell ⟨g, 4, none⟩ (.int .u8 o1)).setCell ⟨g, 5, none⟩ (.string ⟨i1.toArray⟩)).setCell ⟨g, 6, none⟩ (.slice va l1.length vc)).setCell ⟨g, 7, none⟩ (.string ⟨s1.toArray⟩)).setCell ⟨g, 8, none⟩ (.bool f1)) (fun k => ob + 1 ≤ k) (.slice va l1.length vc) l1 from (((((HA3.out.offG HGW.out 3 _).offG HGW.out 4 _).offG HGW.out 5 _).offG HGW.out 6 _).offG HGW.out 7 _).offG HGW.out 8 _)
          generalize ((((((W3.setCell ⟨g, 3, none⟩ (.int .i64 p1)).setCell ⟨g, 4, none⟩ (.int .u8 o1)).setCell ⟨g, 5, none⟩ (.string ⟨i1.toArray⟩)).setCell ⟨g, 6, none⟩ (.slice va l1.length vc)).setCell ⟨g, 7, none⟩ (.string ⟨s1.toArray⟩)).setCell ⟨g, 8, none⟩ (.bool f1)) = W4 at *
          clear HF3 HA3 d0 d1 d2 d3 d4 d5 g3 g4 g5 g6 g7 g8 z3 z4 z5 z6 z7 z8
          obtain ⟨d0, d1, d2, d3, d4, d5⟩ := (HF4.out.blk 2 rfl).cell6
          have HKL : Hid (K9 ≤ l.length) := Lib.hid (by rw [HK9.out]; have := HMP.out; omega)
          go_upto_region 17 with fail
          have HF5 := Lib.hid (show Fr wz [(g, tDec, dcC (.slice (some ⟨b0, o0, none⟩) l.length c) (.slice qa m qc) p1 o1 ⟨i1.toArray⟩ (.slice va l1.length vc) ⟨s1.toArray⟩ f1 K9 SD 0), (ob, 29, itm0), (eb, tEnt, #[.int .i64 p1, .int .u8 o1, .string ⟨i1.toArray⟩, .slice va l1.length vc, .string ⟨s1.toArray⟩, .bool f1])] W4 from by rw [HK9.out]; exact HF4.out)
          have HA5 := Lib.hid HA4.out.old
          clear HF4 HA4 d0 d1 d2 d3 d4 d5
          obtain ⟨w5, hw5⟩ : ∃ w, w = W4 := ⟨_, rfl⟩
          rw [← hw5] at HF5 HA5 ⊢
          clear hw5
          obtain ⟨d0, d1, d2, d3, d4, d5⟩ := (HF5.out.blk 2 rfl).cell6
          have g9 : w5.cell? ⟨g, 9, none⟩ = some (.int .i64 SD) := (HF5.out.blk 0 rfl).cell 9
          have g10 : w5.cell? ⟨g, 10, none⟩ = some (.int .i64 0) := (HF5.out.blk 0 rfl).cell 10
          have HFd := Lib.hid (HF5.out.new' 27 #[.string ⟨#[]⟩, .slice none 0 0] (b := w5.heap.size) rfl).drew
          have HAd := Lib.hid ((HA5.out.mono (q := fun k => ob + 1 ≤ k) (fun k hk => hk.1)).alloc (.cells #[.string ⟨#[]⟩, .slice none 0 0] 27)).drew
          have HZd := Lib.hid ((HFd.out.blk 2 rfl).lt)
          have HTB : Hid (g < w5.heap.size ∧ ob < w5.heap.size ∧ eb < w5.heap.size) := Lib.hid ⟨(HF5.out.blk 0 rfl).lt, (HF5.out.blk 1 rfl).lt, (HF5.out.blk 2 rfl).lt⟩
          have HTN : Hid (∀ x ∈ [(g, tDec, dcC (.slice (some ⟨b0, o0, none⟩) l.length c) (.slice qa m qc) p1 o1 ⟨i1.toArray⟩ (.slice va l1.length vc) ⟨s1.toArray⟩ f1 K9 SD 0), (ob, 29, itm0), (eb, tEnt, #[.int .i64 p1, .int .u8 o1, .string ⟨i1.toArray⟩, .slice va l1.length vc, .string ⟨s1.toArray⟩, .bool f1])], x.1 ≠ w5.heap.size) := Lib.hid (fun x hx => by have h1 := HTB.out; rcases List.mem_cons.1 hx with e | hx; rw [e]; show g ≠ _; omega; rcases List.mem_cons.1 hx with e | hx; rw [e]; show ob ≠ _; omega; rw [List.mem_singleton.1 hx]; show eb ≠ _; omega)
          have ne1 : ¬ eb = w5.heap.size := by have := HTB.out; omega
          have ne2 : ¬ g = w5.heap.size := by have := HTB.out; omega
          have ne3 : w5.heap.size ≠ eb := by have := HTB.out; omega
          have ne4 : w5.heap.size ≠ g := by have := HTB.out; omega
          have HFe := Lib.hid HF5.out.drew
          have HAe := Lib.hid (HA5.out.mono (q := fun k => ob + 1 ≤ k) (fun k hk => hk.1)).drew
          go_cut [9] (fun s9 wx => ∃ tb ja jc, s9 = .pointer (some ⟨tb, 0, none⟩) ∧ ob < tb ∧ Fr wz [(tb, 27, #[.string ⟨IW.toArray⟩, .slice ja IA.length jc]), (g, tDec, dcC (.slice (some ⟨b0, o0, none⟩) l.length c) (.slice qa m qc) p1 o1 ⟨i1.toArray⟩ (.slice va l1.length vc) ⟨s1.toArray⟩ f1 K9 SD 0), (ob, 29, itm0), (eb, tEnt, #[.int .i64 p1, .int .u8 o1, .string ⟨i1.toArray⟩, .slice va l1.length vc, .string ⟨s1.toArray⟩, .bool f1])] wx ∧ SlR opdR wx (fun k => ob + 1 ≤ k) (.slice ja IA.length jc) IA)
          case first =>
            go_region_held3 (fun w' => w'.cell? ⟨eb, 0, none⟩ = some (.int .i64 p1) ∧ w'.cell? ⟨eb, 1, none⟩ = some (.int .u8 o1) ∧ w'.cell? ⟨eb, 2, none⟩ = some (.string ⟨i1.toArray⟩) ∧ w'.cell? ⟨eb, 3, none⟩ = some (.slice va l1.length vc) ∧ w'.cell? ⟨eb, 4, none⟩ = some (.string ⟨s1.toArray⟩) ∧ w'.cell? ⟨eb, 5, none⟩ = some (.bool f1) ∧ w'.cell? ⟨g, 9, none⟩ = some (.int .i64 SD) ∧ w'.cell? ⟨g, 10, none⟩ = some (.int .i64 0)) (go_keep)
              (first
                | (go_at_call 72; refine (HFJ.out _ _ HAd.out).mono ?_; rintro e w6 ⟨ja, jc, jb, rfl, hj, hb6⟩; have HF6 := Lib.hid (HFd.out.next hb6); have HJ6 := Lib.hid hj; obtain ⟨d0, d1, d2, d3, d4, d5⟩ := (HF6.out.blk 3 rfl).cell6; have g9 : w6.cell? ⟨g, 9, none⟩ = some (.int .i64 SD) := (HF6.out.blk 1 rfl).cell 9; have g10 : w6.cell? ⟨g, 10, none⟩ = some (.int .i64 0) := (HF6.out.blk 1 rfl).cell 10; obtain ⟨y0, y1, x0, x1⟩ := (HF6.out.blk 0 rfl).two; have HF7 := Lib.hid (show Fr wz [(w5.heap.size, 27, #[.string ⟨IW.toArray⟩, .slice ja IA.length jc]), (g, tDec, dcC (.slice (some ⟨b0, o0, none⟩) l.length c) (.slice qa m qc) p1 o1 ⟨i1.toArray⟩ (.slice va l1.length vc) ⟨s1.toArray⟩ f1 K9 SD 0), (ob, 29, itm0), (eb, tEnt, #[.int .i64 p1, .int .u8 o1, .string ⟨i1.toArray⟩, .slice va l1.length vc, .string ⟨s1.toArray⟩, .bool f1])] ((w6.setCell ⟨w5.heap.size, 0, none⟩ (.string ⟨IW.toArray⟩)).setCell ⟨w5.heap.size, 1, none⟩ (.slice ja IA.length jc)) from (HF6.out.set (by have := HTB.out; have := HOG.out; omega) HTN.out 0 _).set (by have := HTB.out; have := HOG.out; omega) HTN.out 1 _); have HJ7 := Lib.hid (show SlR opdR ((w6.setCell ⟨w5.heap.size, 0, none⟩ (.string ⟨IW.toArray⟩)).setCell ⟨w5.heap.size, 1, none⟩ (.slice ja IA.length jc)) (fun k => ob + 1 ≤ k) (.slice ja IA.length jc) IA from ((HJ6.out.keep (Keep.setCell (fun k hk => by show k ≠ w5.heap.size; have hk : (w5.alloc (.cells #[.string ⟨#[]⟩, .slice none 0 0] 27)).drew.heap.size ≤ k := hk; rw [show (w5.alloc (.cells #[.string ⟨#[]⟩, .slice none 0 0] 27)).drew.heap.size = w5.heap.size + 1 from World.size_alloc _ _] at hk; omega) _)).keep (Keep.setCell (fun k hk => by show k ≠ w5.heap.size; have hk : (w5.alloc (.cells #[.string ⟨#[]⟩, .slice none 0 0] 27)).drew.heap.size ≤ k := hk; rw [show (w5.alloc (.cells #[.string ⟨#[]⟩, .slice none 0 0] 27)).drew.heap.size = w5.heap.size + 1 from World.size_alloc _ _] at hk; omega) _)).mono (fun k hk => Nat.le_trans HZd.out hk)); have HOT := Lib.hid HTB.out.2.1; clear hj hb6)
                | (go_at_call 72; refine (HFJ.out _ _ HAe.out).mono ?_; rintro e w6 ⟨ja, jc, jb, rfl, hj, hb6⟩; have HF6 := Lib.hid (HFe.out.next hb6); obtain ⟨d0, d1, d2, d3, d4, d5⟩ := (HF6.out.blk 2 rfl).cell6; have g9 : w6.cell? ⟨g, 9, none⟩ = some (.int .i64 SD) := (HF6.out.blk 0 rfl).cell 9; have g10 : w6.cell? ⟨g, 10, none⟩ = some (.int .i64 0) := (HF6.out.blk 0 rfl).cell 10; have HF7 := Lib.hid (HF6.out.new' 27 #[.string ⟨IW.toArray⟩, .slice ja IA.length jc] (b := w6.heap.size) rfl); have HJ7 := Lib.hid ((hj.mono (q := fun k => ob + 1 ≤ k) (fun k hk => Nat.le_trans HTB.out.2.1 hk)).alloc (.cells #[.string ⟨IW.toArray⟩, .slice ja IA.length jc] 27)); have HOT := Lib.hid ((HF6.out.blk 1 rfl).lt); clear hj hb6))
            all_goals go_wp2_with fail
            all_goals go_meet
            all_goals exact ⟨_, _, _, rfl, HOT.out, HF7.out, HJ7.out⟩
          case rest =>
            obtain ⟨tb, ja, jc, rfl, hot, hf7, hj7⟩ := hcut
            clear HFd HAd HFe HAe HF5 HA5 HTN ne1 ne2 ne3 ne4 HTB HFJ HZd
            have HF7 := Lib.hid hf7
            have HJ7 := Lib.hid hj7
            clear hf7 hj7
            have ne1 : ob ≠ tb := by omega
            have ne2 : ob ≠ eb := by have := HEB.out.2; omega
            have ne3 : ob ≠ g := fun e => HGO.out e.symm
            have ne4 : tb ≠ ob := by omega
            have ne5 : eb ≠ ob := by have := HEB.out.2; omega
            have ne6 : g ≠ ob := HGO.out
            go_upto_region 18 with fail
            clear d0 d1 d2 d3 d4 d5 g9 g10
            have t0 : wc.cell? ⟨tb, 0, none⟩ = some (.string ⟨IW.toArray⟩) := (HF7.out.blk 0 rfl).cell 0
            have t1 : wc.cell? ⟨tb, 1, none⟩ = some (.slice ja IA.length jc) := (HF7.out.blk 0 rfl).cell 1
            have d5 : wc.cell? ⟨eb, 5, none⟩ = some (.bool f1) := (HF7.out.blk 3 rfl).cell 5
            have g1 : wc.cell? ⟨g, 1, none⟩ = some (.int .i64 K9) := (HF7.out.blk 1 rfl).cell 1
            have HG7 := Lib.hid HF7.out.drew
            have HJd := Lib.hid HJ7.out.drew
            have HRW := Lib.hid (raw_any g _ _ ⟨b0, o0, none⟩ c l K9 _ (HG7.out.blk 1 rfl) rfl (HS.out _ HG7.out.below) HKL.out HL.out)
            obtain ⟨R1, hR1⟩ : ∃ R, R = l.take K9 := ⟨_, rfl⟩
            rw [← hR1] at HRW
            have HR1 := Lib.hid hR1
            have HZ7 := Lib.hid ((HG7.out.blk 2 rfl).lt)
            clear hR1
            go_region_held3 (fun w' => w'.cell? ⟨tb, 0, none⟩ = some (.string ⟨IW.toArray⟩) ∧ w'.cell? ⟨tb, 1, none⟩ = some (.slice ja IA.length jc) ∧ w'.cell? ⟨eb, 5, none⟩ = some (.bool f1) ∧ w'.cell? ⟨g, 1, none⟩ = some (.int .i64 K9)) (go_keep)
              (first | (go_at_call 85; refine (HRW.out).mono ?_; rintro e w8 ⟨v8, rfl, ho8, hb8⟩; obtain ⟨ra, rc, rfl⟩ := ho8.form; have HO8 := Lib.hid ho8; have HF8 := Lib.hid (HG7.out.next hb8); have HJ8 := Lib.hid (HJd.out.below hb8); obtain ⟨⟨c0, c1, c2, c3, c4⟩, f00, f01, f02, f03, f04⟩ := (HF8.out.blk 2 rfl).five; have t0 : w8.cell? ⟨tb, 0, none⟩ = some (.string ⟨IW.toArray⟩) := (HF8.out.blk 0 rfl).cell 0; have t1 : w8.cell? ⟨tb, 1, none⟩ = some (.slice ja IA.length jc) := (HF8.out.blk 0 rfl).cell 1; have d5 : w8.cell? ⟨eb, 5, none⟩ = some (.bool f1) := (HF8.out.blk 3 rfl).cell 5; have g1 : w8.cell? ⟨g, 1, none⟩ = some (.int .i64 K9) := (HF8.out.blk 1 rfl).cell 1; clear ho8 hb8))
            go_wp2
            have F5 := Lib.hid ((HF8.out.sub (M := [(ob, 29, itm0), (g, tDec, dcC (.slice (some ⟨b0, o0, none⟩) l.length c) (.slice qa m qc) p1 o1 ⟨i1.toArray⟩ (.slice va l1.length vc) ⟨s1.toArray⟩ f1 K9 SD 0)]) (fun x hx => by rcases List.mem_cons.1 hx with e | hx; rw [e]; simp; rw [List.mem_singleton.1 hx]; simp)).set5 HOG.out (fun x hx => by rw [List.mem_singleton.1 hx]; exact HGO.out) (.int .i64 1) (.slice ra R1.length rc) (.string ⟨IW.toArray⟩) (.slice ja IA.length jc) (.bool f1))
            rw [if_neg (by have := HKL.out; omega)] at HIN
            exact bodyPost_ret (item_end rfl rfl (F5.out.blk 0 rfl) rfl) rfl (IteP.ret (HIF.out.trans HIN.out) (by show ¬ (1 : Int) = 4; decide) F5.out.below (F5.out.blk 1 rfl) rfl ((ItmR.off5 (B := ob + 1) (ItmR.full HO8.out HR1.out HJ8.out HZ7.out) (Nat.lt_succ_self _) _ _ _ _ _).base (by have := HOG.out; omega)))
    · have h5' : ¬ (5 : Int) ≤ (q : Int) := by omega
      rw [if_neg h5, Nat.add_zero] at HP0
      generalize hm : (prefF q).length = m at *
      have HMM := Lib.hid hm
      clear hm
      by_cases hA : l.length ≤ m
      · have HQ := Lib.hid (HI.out.stop H0.out (.inl (by rw [HP0.out]; exact hA)))
        go_wp2_with (first
          | (go_at_call 128; refine (HPG.out _ (Below.refl _ _)).mono ?_; rintro e w1 ⟨rfl, hb⟩; have HF1 := Lib.hid (HF.out.next hb); have HO1 := Lib.hid (HO.out.stay hb); have HZ1 := Lib.hid (Nat.le_trans HZ.out hb.size); clear hb)
          | (go_at_call 130; refine (dtake_no g _ (some ⟨b0, o0, none⟩) l.length c m _ (HF1.out.blk 0 rfl) rfl rfl hA).mono ?_; rintro e w2 ⟨rfl, hb⟩; have HF2 := Lib.hid (HF1.out.next hb); clear hb))
        exact ⟨rfl, IteP.cut (by unfold itF; rw [HQ.out]; unfold itS; rw [if_pos (by rw [HP0.out]; exact hA)]) HF2.out.below ⟨⟨0, 0, [], [], [], false⟩, none, qa, 0, 0, qc, m, 0, 0, by rw [HQ.out, HMM.out]; exact HF2.out.blk 0 rfl, .inl ⟨rfl, by rw [HQ.out, HP0.out]; exact hA⟩⟩⟩
      · have HMP : Hid (m < l.length) := Lib.hid (by omega)
        have HAT := Lib.hid (fun W hW => At_any q (bAt l m) (bAt_lt l m) W hW)
        cases hpr : isPre q (bAt l m)
        · have HQ := Lib.hid (HI.out.stop H0.out (.inr (by rw [HP0.out]; exact hpr)))
          have HNP : Hid (¬ l.length ≤ pos q) := Lib.hid (by rw [HP0.out]; exact hA)
          cases hat : atF q (bAt l m) with
          | mk oe kk =>
          rw [hat] at HAT
          cases oe with
          | none =>
            dsimp only at HAT
            rcases at_none hq7 (bAt_lt l m) hpr hat with ⟨rfl, _⟩ | ⟨rfl, hq2⟩
            · have HIF := Lib.hid (itF_no0 HQ.out HNP.out (by rw [HP0.out]; exact hat))
              go_upto_region 11 with (first
                | (go_at_call 128; refine (HPG.out _ (Below.refl _ _)).mono ?_; rintro e w1 ⟨rfl, hb⟩; have HF1 := Lib.hid (HF.out.next hb); have HO1 := Lib.hid (HO.out.stay hb); have HZ1 := Lib.hid (Nat.le_trans HZ.out hb.size); clear hb)
                | (go_at_call 130; refine (dtake_yes g _ _ (some ⟨b0, o0, none⟩) c l m _ (HF1.out.blk 0 rfl) rfl rfl (HS.out _ HF1.out.below) HP.out HMP.out HL.out).mono ?_; rintro e w2 ⟨rfl, hk2, hg2⟩; have HF2 := Lib.hid (show Fr wz [(g, tDec, dcC (.slice (some ⟨b0, o0, none⟩) l.length c) (.slice qa m qc) 0 0 ⟨#[]⟩ (.slice none 0 0) ⟨#[]⟩ false (m + 1) 0 0), (ob, 29, itm0)] w2 from HF1.out.grow hg2 hk2 HG.out HON.out); have HO2 := Lib.hid (HO1.out.keep (Keep.grown hg2 (fun k hk => by rcases hk with hk | hk; exact hk.elim; exact ⟨(HO1.out.lt k hk).2, fun e => by have := (HO1.out.lt k hk).1; have := HGW.out; have := Option.some.inj e; omega⟩))); have HZ2 := Lib.hid (Nat.le_trans HZ1.out hg2.size); clear hk2 hg2)
                | (go_at_call 33; refine (HAT.out _ (HTS.out _ HF2.out.below)).mono ?_; rintro e w3 ⟨rfl, hb⟩; have HF3 := Lib.hid ((HF2.out.next hb).alloc (.cells #[.int .i64 0, .int .u8 0, .string ⟨#[]⟩, .slice none 0 0, .string ⟨#[]⟩, .bool false] tEnt)); have HO3 := Lib.hid ((HO2.out.stay hb).stay ((Below.refl _ _).alloc (Nat.le_refl _) (.cells #[.int .i64 0, .int .u8 0, .string ⟨#[]⟩, .slice none 0 0, .string ⟨#[]⟩, .bool false] tEnt))); have HZ3 := Lib.hid (Nat.le_trans HZ2.out (Nat.le_trans hb.size ((Below.refl _ _).alloc (Nat.le_refl _) (.cells #[.int .i64 0, .int .u8 0, .string ⟨#[]⟩, .slice none 0 0, .string ⟨#[]⟩, .bool false] tEnt)).size)); clear hb; unfold ent0))
              generalize w3.alloc (.cells #[.int .i64 0, .int .u8 0, .string ⟨#[]⟩, .slice none 0 0, .string ⟨#[]⟩, .bool false] tEnt) = W3 at *
              have HRW := Lib.hid (raw_any g _ _ ⟨b0, o0, none⟩ c l 1 _ (HF3.out.blk 0 rfl) rfl (HS.out _ HF3.out.below) H0.out HL.out)
              obtain ⟨R1, hR1⟩ : ∃ R, R = l.take 1 := ⟨_, rfl⟩
              rw [← hR1] at HRW
              have HR1 := Lib.hid hR1
              clear hR1
              go_wp2_with (go_at_call 85; refine (HRW.out).mono ?_; rintro e w4 ⟨v4, rfl, ho4, hb4⟩; obtain ⟨ra, rc, rfl⟩ := ho4.form; have HO4 := Lib.hid ho4; have HF4 := Lib.hid (HF3.out.next hb4); have HB4 := Lib.hid hb4; obtain ⟨⟨c0, c1, c2, c3, c4⟩, f0, f1, f2, f3, f4⟩ := (HF4.out.blk 1 rfl).five; clear ho4 hb4)
              have F5 := Lib.hid (HF4.out.swap.set5 HOG.out (fun x hx => by rw [List.mem_singleton.1 hx]; exact HGO.out) (.int .i64 2) (.slice ra R1.length rc) (.string ⟨#[]⟩) (.slice none 0 0) (.bool false))
              exact bodyPost_ret (item_end rfl rfl (F5.out.blk 0 rfl) rfl) rfl (IteP.ret HIF.out (by decide) F5.out.below (F5.out.blk 1 rfl) rfl (((ItmR.bare HO4.out HR1.out (Nat.le_refl _)).off5 (by have := HZ3.out; omega) _ _ _ _ _).base (by have := HOG.out; have := HZ3.out; omega)))
            · have HM1 : Hid (m = 1) := Lib.hid (by rw [← HMM.out, hq2]; rfl)
              clear hq2
              have HIF := Lib.hid (itF_no3 HM1.out HQ.out HNP.out (by rw [HP0.out]; exact hat))
              go_upto_region 13 with (first
                | (go_at_call 128; refine (HPG.out _ (Below.refl _ _)).mono ?_; rintro e w1 ⟨rfl, hb⟩; have HF1 := Lib.hid (HF.out.next hb); have HO1 := Lib.hid (HO.out.stay hb); have HZ1 := Lib.hid (Nat.le_trans HZ.out hb.size); clear hb)
                | (go_at_call 130; refine (dtake_yes g _ _ (some ⟨b0, o0, none⟩) c l m _ (HF1.out.blk 0 rfl) rfl rfl (HS.out _ HF1.out.below) HP.out HMP.out HL.out).mono ?_; rintro e w2 ⟨rfl, hk2, hg2⟩; have HF2 := Lib.hid (show Fr wz [(g, tDec, dcC (.slice (some ⟨b0, o0, none⟩) l.length c) (.slice qa m qc) 0 0 ⟨#[]⟩ (.slice none 0 0) ⟨#[]⟩ false (m + 1) 0 0), (ob, 29, itm0)] w2 from HF1.out.grow hg2 hk2 HG.out HON.out); have HO2 := Lib.hid (HO1.out.keep (Keep.grown hg2 (fun k hk => by rcases hk with hk | hk; exact hk.elim; exact ⟨(HO1.out.lt k hk).2, fun e => by have := (HO1.out.lt k hk).1; have := HGW.out; have := Option.some.inj e; omega⟩))); have HZ2 := Lib.hid (Nat.le_trans HZ1.out hg2.size); clear hk2 hg2)
                | (go_at_call 33; refine (HAT.out _ (HTS.out _ HF2.out.below)).mono ?_; rintro e w3 ⟨rfl, hb⟩; have HF3 := Lib.hid ((HF2.out.next hb).alloc (.cells #[.int .i64 0, .int .u8 0, .string ⟨#[]⟩, .slice none 0 0, .string ⟨#[]⟩, .bool false] tEnt)); have HO3 := Lib.hid ((HO2.out.stay hb).stay ((Below.refl _ _).alloc (Nat.le_refl _) (.cells #[.int .i64 0, .int .u8 0, .string ⟨#[]⟩, .slice none 0 0, .string ⟨#[]⟩, .bool false] tEnt))); have HZ3 := Lib.hid (Nat.le_trans HZ2.out (Nat.le_trans hb.size ((Below.refl _ _).alloc (Nat.le_refl _) (.cells #[.int .i64 0, .int .u8 0, .string ⟨#[]⟩, .slice none 0 0, .string ⟨#[]⟩, .bool false] tEnt)).size)); clear hb; unfold ent0))
              generalize w3.alloc (.cells #[.int .i64 0, .int .u8 0, .string ⟨#[]⟩, .slice none 0 0, .string ⟨#[]⟩, .bool false] tEnt) = W3 at *
              obtain ⟨M, hM⟩ : ∃ M, M = m + 1 := ⟨_, rfl⟩
              have HM : Hid (M ≤ l.length) := Lib.hid (by have := HMP.out; omega)
              rw [← hM] at HF3 HIF
              clear hM
              have HFD := Lib.hid HF3.out.drew
              have HRW := Lib.hid (raw_any g _ _ ⟨b0, o0, none⟩ c l M _ (HFD.out.blk 0 rfl) rfl (HS.out _ HFD.out.below) HM.out HL.out)
              obtain ⟨R1, hR1⟩ : ∃ R, R = l.take M := ⟨_, rfl⟩
              rw [← hR1] at HRW
              have HR1 := Lib.hid hR1
              clear hR1
              have g1 : W3.cell? ⟨g, 1, none⟩ = some (.int .i64 M) := (HF3.out.blk 0 rfl).cell 1
              have hgw : g < W3.heap.size := (HF3.out.blk 0 rfl).lt
              go_region_law ((go_simp; (go_at_call 85; refine (HRW.out).mono ?_; rintro e w4 ⟨v4, rfl, ho4, hb4⟩; obtain ⟨ra, rc, rfl⟩ := ho4.form; have HO4 := Lib.hid ho4; have HF4 := Lib.hid (HFD.out.next hb4); obtain ⟨⟨c0, c1, c2, c3, c4⟩, f0, f1, f2, f3, f4⟩ := (HF4.out.blk 1 rfl).five; clear ho4 hb4 g1; have g1 : w4.cell? ⟨g, 1, none⟩ = some (.int .i64 M) := (HF4.out.blk 0 rfl).cell 1); dsimp only))
              all_goals go_wp2
              all_goals have F5 := Lib.hid (HF4.out.swap.set5 HOG.out (fun x hx => by rw [List.mem_singleton.1 hx]; exact HGO.out) (.int .i64 3) (.slice ra R1.length rc) (.string ⟨#[]⟩) (.slice none 0 0) (.bool false))
              all_goals exact bodyPost_ret (item_end rfl rfl (F5.out.blk 0 rfl) rfl) rfl (IteP.ret HIF.out (by show ¬ (3 : Int) = 4; decide) F5.out.below (F5.out.blk 1 rfl) rfl (((ItmR.bare HO4.out HR1.out (Nat.le_refl _)).off5 (by have := HZ3.out; show ob < W3.heap.size; omega) _ _ _ _ _).base (by have := HOG.out; have := HZ3.out; show wz.heap.size ≤ W3.heap.size; omega)))
          | some ev =>
            have HE1 := Lib.hid (at_some hq7 (bAt_lt l m) hat)
            obtain rfl := HE1.out.1
            have HEW := Lib.hid (entW_at hq7 (bAt_lt l m) (by rw [hat]))
            have HOK := Lib.hid (ent_at (bAt_lt l m) (by rw [hat]))
            have HIF := Lib.hid (itF_e HQ.out HNP.out (by rw [HP0.out]; exact hat))
            have HNA : Hid ((atF (pgB l) (bAt l (pos (pgB l)))).1 = some ev) := Lib.hid (by rw [HQ.out, HP0.out, hat])
            have HSZ : Hid (sizF ev = m + 1 + rdN ev.ex) := Lib.hid (by unfold sizF; rw [HEW.out.2.1, HMM.out])
            have HNB : Hid (numB q ev l = rdF ev.ex l (m + 1) 0 0) := Lib.hid (by unfold numB; rw [if_neg h5, HP0.out])
            have HPS : Hid (pos (pgB l) < l.length) := Lib.hid (by rw [HQ.out, HP0.out]; exact HMP.out)
            clear hat
            have HFI := Lib.hid (fun d n v W h => FillI_any ev HOK.out d n (fun k => ob + 1 ≤ k) v W h)
            have HIN : Hid (itE q ev l = if l.length < sizF ev then ⟨4, l.length, [], [], false⟩ else ⟨1, sizF ev, (insF ev (numB q ev l).1 (numB q ev l).2).1, (insF ev (numB q ev l).1 (numB q ev l).2).2, ev.al⟩) := Lib.hid rfl
            rw [HNB.out, HSZ.out] at HIN
            have HLET : Hid (∀ k (h : k < (⟨ev.ex.toArray⟩ : ByteArray).size), okLet (⟨ev.ex.toArray⟩ : ByteArray)[k]) := Lib.hid (fun k h => HEW.out.1.lets _ (by show ev.ex.toArray[k] ∈ _; simp))
            have HLES : Hid ((⟨ev.ex.toArray⟩ : ByteArray).size ≤ 1000) := Lib.hid (by have := HEW.out.1.len; show ev.ex.toArray.size ≤ _; rw [List.size_toArray]; omega)
            have HXF : Hid (∀ va vc W, Blk W g tDec (dcC (.slice (some ⟨b0, o0, none⟩) l.length c) (.slice qa m qc) ev.pg ev.op ⟨ev.iop.toArray⟩ (.slice va ev.args.length vc) ⟨ev.ex.toArray⟩ ev.al (m + 1) 0 0) → RowKit.Below wz.heap.size wz W → Calls Tryz.prog 129 #[.pointer (some ⟨g, 0, none⟩), .string ⟨ev.ex.toArray⟩] W (ExtP W g (dcC (.slice (some ⟨b0, o0, none⟩) l.length c) (.slice qa m qc) ev.pg ev.op ⟨ev.iop.toArray⟩ (.slice va ev.args.length vc) ⟨ev.ex.toArray⟩ ev.al) l.length (m + 1 + rdN ev.ex) (rdF ev.ex l (m + 1) 0 0))) := Lib.hid (fun va vc W h1 h2 => extra_any g (some ⟨b0, o0, none⟩) c (.slice qa m qc) ev.pg ev.op ⟨ev.iop.toArray⟩ (.slice va ev.args.length vc) ⟨ev.ex.toArray⟩ ev.al ⟨ev.ex.toArray⟩ HLET.out HLES.out _ l HP.out HL.out (m + 1) HMP.out 0 0 W h1 (HS.out _ h2))
            clear HLET HLES
            rcases hRR : rdF ev.ex l (m + 1) 0 0 with ⟨dd, nn⟩
            rw [hRR] at HXF HIN
            dsimp only at HIN
            clear hRR HNB HE1
            have HFJ := Lib.hid (fun v W h => HFI.out dd nn v W h)
            have HIA : Hid (∃ IW IA, (insF ev dd nn).1 = IW ∧ (insF ev dd nn).2 = IA) := Lib.hid ⟨_, _, rfl, rfl⟩
            obtain ⟨IW, IA, hIO, hIA⟩ := HIA.out
            rw [hIO, hIA] at HFJ HIN
            clear hIO hIA HIA HFI HOK HEW
            obtain ⟨K9, hK9⟩ : ∃ K, K = m + 1 + rdN ev.ex := ⟨_, rfl⟩
            rw [← hK9] at HXF HIN
            have HK9 := Lib.hid hK9
            clear hK9 HSZ
            obtain ⟨p1, o1, i1, l1, s1, f1⟩ := ev
            dsimp only at *
            unfold entVal at HFJ
            dsimp only at HFJ
            go_upto_region 14 with (first
              | (go_at_call 128; refine (HPG.out _ (Below.refl _ _)).mono ?_; rintro e w1 ⟨rfl, hb⟩; have HF1 := Lib.hid (HF.out.next hb); have HO1 := Lib.hid (HO.out.stay hb); have HZ1 := Lib.hid (Nat.le_trans HZ.out hb.size); clear hb)
              | (go_at_call 130; refine (dtake_yes g _ _ (some ⟨b0, o0, none⟩) c l m _ (HF1.out.blk 0 rfl) rfl rfl (HS.out _ HF1.out.below) HP.out HMP.out HL.out).mono ?_; rintro e w2 ⟨rfl, hk2, hg2⟩; have HF2 := Lib.hid (show Fr wz [(g, tDec, dcC (.slice (some ⟨b0, o0, none⟩) l.length c) (.slice qa m qc) 0 0 ⟨#[]⟩ (.slice none 0 0) ⟨#[]⟩ false (m + 1) 0 0), (ob, 29, itm0)] w2 from HF1.out.grow hg2 hk2 HG.out HON.out); have HO2 := Lib.hid (HO1.out.keep (Keep.grown hg2 (fun k hk => by rcases hk with hk | hk; exact hk.elim; exact ⟨(HO1.out.lt k hk).2, fun e => by have := (HO1.out.lt k hk).1; have := HGW.out; have := Option.some.inj e; omega⟩))); have HZ2 := Lib.hid (Nat.le_trans HZ1.out hg2.size); clear hk2 hg2)
              | (go_at_call 33; refine (HAT.out _ (HTS.out _ HF2.out.below)).mono ?_; rintro e w3 ⟨⟨v3, rfl, ho3⟩, hb⟩; obtain ⟨va, vc, rfl⟩ : ∃ a c, v3 = .slice a l1.length c := ho3.form; have HEB : Hid (g ≠ w3.heap.size ∧ ob < w3.heap.size) := Lib.hid (by have := ((HF2.out.next hb).blk 0 rfl).lt; have := ((HF2.out.next hb).blk 1 rfl).lt; omega); have HF3 := Lib.hid (((HF2.out.next hb).new' tEnt #[.int .i64 p1, .int .u8 o1, .string ⟨i1.toArray⟩, .slice va l1.length vc, .string ⟨s1.toArray⟩, .bool f1] (b := w3.heap.size) rfl).rot); have HA3 := Lib.hid ((ho3.slR.mono (q := fun k => ob + 1 ≤ k) (fun k hk => Nat.le_trans HZ2.out hk)).below ((Below.refl _ _).alloc (Nat.le_refl _) (.cells #[.int .i64 p1, .int .u8 o1, .string ⟨i1.toArray⟩, .slice va l1.length vc, .string ⟨s1.toArray⟩, .bool f1] tEnt))); clear hb ho3; unfold entVal; dsimp only))
            generalize w3.alloc (.cells #[.int .i64 p1, .int .u8 o1, .string ⟨i1.toArray⟩, .slice va l1.length vc, .string ⟨s1.toArray⟩, .bool f1] tEnt) = W3 at *
            generalize w3.heap.size = eb at *
            have HON3 : Hid (∀ x ∈ [(ob, 29, itm0), (eb, tEnt, #[.int .i64 p1, .int .u8 o1, .string ⟨i1.toArray⟩, .slice va l1.length vc, .string ⟨s1.toArray⟩, .bool f1])], x.1 ≠ g) := Lib.hid (fun x hx => by rcases List.mem_cons.1 hx with e | hx; rw [e]; exact fun e => HGO.out e.symm; rw [List.mem_singleton.1 hx]; exact fun e => HEB.out.1 e.symm)
            obtain ⟨d0, d1, d2, d3, d4, d5⟩ := (HF3.out.blk 2 rfl).cell6
            obtain ⟨⟨g3, g4, g5, g6, g7, g8⟩, z3, z4, z5, z6, z7, z8⟩ := (HF3.out.blk 0 rfl).eleven
            go_upto_region 15 with fail
            try rw [show decide ((5 : Int) ≤ (q : Int)) = false from decide_eq_false (by omega)]
            have HF4 := Lib.hid (show Fr wz [(g, tDec, dcC (.slice (some ⟨b0, o0, none⟩) l.length c) (.slice qa m qc) p1 o1 ⟨i1.toArray⟩ (.slice va l1.length vc) ⟨s1.toArray⟩ f1 (m + 1) 0 0), (ob, 29, itm0), (eb, tEnt, #[.int .i64 p1, .int .u8 o1, .string ⟨i1.toArray⟩, .slice va l1.length vc, .string ⟨s1.toArray⟩, .bool f1])] ((((((W3.setCell ⟨g, 3, none⟩ (.int .i64 p1)).setCell ⟨g, 4, none⟩ (.int .u8 o1)).setCell ⟨g, 5, none⟩ (.string ⟨i1.toArray⟩)).setCell ⟨g, 6, none⟩ (.slice va l1.length vc)).setCell ⟨g, 7, none⟩ (.string ⟨s1.toArray⟩)).setCell ⟨g, 8, none⟩ (.bool f1)) from (((((HF3.out.set HG.out HON3.out 3 _).set HG.out HON3.out 4 _).set HG.out HON3.out 5 _).set HG.out HON3.out 6 _).set HG.out HON3.out 7 _).set HG.out HON3.out 8 _)
            have HA4 := Lib.hid (show SlR opdR ((((((W3.setCell ⟨g, 3, none⟩ (.int .i64 p1)).setCell ⟨g, 4, none⟩ (.int .u8 o1)).setCell ⟨g, 5, none⟩ (.string ⟨i1.toArray⟩)).setCell ⟨g, 6, none⟩ (.slice va l1.length vc)).setCell ⟨g, 7, none⟩ (.string ⟨s1.toArray⟩)).setCell ⟨g, 8, none⟩ (.bool f1)) (fun k => ob + 1 ≤ k) (.slice va l1.length vc) l1 from (((((HA3.out.offG HGW.out 3 _).offG HGW.out 4 _).offG HGW.out 5 _).offG HGW.out 6 _).offG HGW.out 7 _).offG HGW.out 8 _)
            generalize ((((((W3.setCell ⟨g, 3, none⟩ (.int .i64 p1)).setCell ⟨g, 4, none⟩ (.int .u8 o1)).setCell ⟨g, 5, none⟩ (.string ⟨i1.toArray⟩)).setCell ⟨g, 6, none⟩ (.slice va l1.length vc)).setCell ⟨g, 7, none⟩ (.string ⟨s1.toArray⟩)).setCell ⟨g, 8, none⟩ (.bool f1)) = W4 at *
            clear HF3 HA3 d0 d1 d2 d3 d4 d5 g3 g4 g5 g6 g7 g8 z3 z4 z5 z6 z7 z8
            obtain ⟨d0, d1, d2, d3, d4, d5⟩ := (HF4.out.blk 2 rfl).cell6
            by_cases hKL : K9 ≤ l.length
            · have HKL := Lib.hid hKL
              clear hKL
              go_upto_region 17 with (go_at_call 129; refine (HXF.out _ _ _ (HF4.out.blk 0 rfl) HF4.out.below).mono ?_; rintro e w5 ⟨hg5, hx5⟩; rw [if_pos HKL.out] at hx5; obtain ⟨rfl, hb5⟩ := hx5; have HF5 := Lib.hid (HF4.out.grow hg5 hb5 HG.out HON3.out); have HA5 := Lib.hid (HA4.out.old.keep (Keep.grown hg5 (fun k hk => ⟨hk.2, fun e => by have := Option.some.inj e; have := hk.1; have := HGW.out; omega⟩))); clear hg5 hb5 d0 d1 d2 d3 d4 d5)
              clear HXF HAT HPG HF4 HA4
              obtain ⟨d0, d1, d2, d3, d4, d5⟩ := (HF5.out.blk 2 rfl).cell6
              have g9 : w5.cell? ⟨g, 9, none⟩ = some (.int .i64 dd) := (HF5.out.blk 0 rfl).cell 9
              have g10 : w5.cell? ⟨g, 10, none⟩ = some (.int .i64 nn) := (HF5.out.blk 0 rfl).cell 10
              have HFd := Lib.hid (HF5.out.new' 27 #[.string ⟨#[]⟩, .slice none 0 0] (b := w5.heap.size) rfl).drew
              have HAd := Lib.hid ((HA5.out.mono (q := fun k => ob + 1 ≤ k) (fun k hk => hk.1)).alloc (.cells #[.string ⟨#[]⟩, .slice none 0 0] 27)).drew
              have HZd := Lib.hid ((HFd.out.blk 2 rfl).lt)
              have HTB : Hid (g < w5.heap.size ∧ ob < w5.heap.size ∧ eb < w5.heap.size) := Lib.hid ⟨(HF5.out.blk 0 rfl).lt, (HF5.out.blk 1 rfl).lt, (HF5.out.blk 2 rfl).lt⟩
              have HTN : Hid (∀ x ∈ [(g, tDec, dcC (.slice (some ⟨b0, o0, none⟩) l.length c) (.slice qa m qc) p1 o1 ⟨i1.toArray⟩ (.slice va l1.length vc) ⟨s1.toArray⟩ f1 K9 dd nn), (ob, 29, itm0), (eb, tEnt, #[.int .i64 p1, .int .u8 o1, .string ⟨i1.toArray⟩, .slice va l1.length vc, .string ⟨s1.toArray⟩, .bool f1])], x.1 ≠ w5.heap.size) := Lib.hid (fun x hx => by have h1 := HTB.out; rcases List.mem_cons.1 hx with e | hx; rw [e]; show g ≠ _; omega; rcases List.mem_cons.1 hx with e | hx; rw [e]; show ob ≠ _; omega; rw [List.mem_singleton.1 hx]; show eb ≠ _; omega)
              have ne1 : ¬ eb = w5.heap.size := by have := HTB.out; omega
              have ne2 : ¬ g = w5.heap.size := by have := HTB.out; omega
              have ne3 : w5.heap.size ≠ eb := by have := HTB.out; omega
              have ne4 : w5.heap.size ≠ g := by have := HTB.out; omega
              have HFe := Lib.hid HF5.out.drew
              have HAe := Lib.hid (HA5.out.mono (q := fun k => ob + 1 ≤ k) (fun k hk => hk.1)).drew
              go_cut [9] (fun s9 wx => ∃ tb ja jc, s9 = .pointer (some ⟨tb, 0, none⟩) ∧ ob < tb ∧ Fr wz [(tb, 27, #[.string ⟨IW.toArray⟩, .slice ja IA.length jc]), (g, tDec, dcC (.slice (some ⟨b0, o0, none⟩) l.length c) (.slice qa m qc) p1 o1 ⟨i1.toArray⟩ (.slice va l1.length vc) ⟨s1.toArray⟩ f1 K9 dd nn), (ob, 29, itm0), (eb, tEnt, #[.int .i64 p1, .int .u8 o1, .string ⟨i1.toArray⟩, .slice va l1.length vc, .string ⟨s1.toArray⟩, .bool f1])] wx ∧ SlR opdR wx (fun k => ob + 1 ≤ k) (.slice ja IA.length jc) IA)
              case first =>
                go_region_held3 (fun w' => w'.cell? ⟨eb, 0, none⟩ = some (.int .i64 p1) ∧ w'.cell? ⟨eb, 1, none⟩ = some (.int .u8 o1) ∧ w'.cell? ⟨eb, 2, none⟩ = some (.string ⟨i1.toArray⟩) ∧ w'.cell? ⟨eb, 3, none⟩ = some (.slice va l1.length vc) ∧ w'.cell? ⟨eb, 4, none⟩ = some (.string ⟨s1.toArray⟩) ∧ w'.cell? ⟨eb, 5, none⟩ = some (.bool f1) ∧ w'.cell? ⟨g, 9, none⟩ = some (.int .i64 dd) ∧ w'.cell? ⟨g, 10, none⟩ = some (.int .i64 nn)) (go_keep)
                  (first
                    | (go_at_call 72; refine (HFJ.out _ _ HAd.out).mono ?_; rintro e w6 ⟨ja, jc, jb, rfl, hj, hb6⟩; have HF6 := Lib.hid (HFd.out.next hb6); have HJ6 := Lib.hid hj; obtain ⟨d0, d1, d2, d3, d4, d5⟩ := (HF6.out.blk 3 rfl).cell6; have g9 : w6.cell? ⟨g, 9, none⟩ = some (.int .i64 dd) := (HF6.out.blk 1 rfl).cell 9; have g10 : w6.cell? ⟨g, 10, none⟩ = some (.int .i64 nn) := (HF6.out.blk 1 rfl).cell 10; obtain ⟨y0, y1, x0, x1⟩ := (HF6.out.blk 0 rfl).two; have HF7 := Lib.hid (show Fr wz [(w5.heap.size, 27, #[.string ⟨IW.toArray⟩, .slice ja IA.length jc]), (g, tDec, dcC (.slice (some ⟨b0, o0, none⟩) l.length c) (.slice qa m qc) p1 o1 ⟨i1.toArray⟩ (.slice va l1.length vc) ⟨s1.toArray⟩ f1 K9 dd nn), (ob, 29, itm0), (eb, tEnt, #[.int .i64 p1, .int .u8 o1, .string ⟨i1.toArray⟩, .slice va l1.length vc, .string ⟨s1.toArray⟩, .bool f1])] ((w6.setCell ⟨w5.heap.size, 0, none⟩ (.string ⟨IW.toArray⟩)).setCell ⟨w5.heap.size, 1, none⟩ (.slice ja IA.length jc)) from (HF6.out.set (by have := HTB.out; have := HOG.out; omega) HTN.out 0 _).set (by have := HTB.out; have := HOG.out; omega) HTN.out 1 _); have HJ7 := Lib.hid (show SlR opdR ((w6.setCell ⟨w5.heap.size, 0, none⟩ (.string ⟨IW.toArray⟩)).setCell ⟨w5.heap.size, 1, none⟩ (.slice ja IA.length jc)) (fun k => ob + 1 ≤ k) (.slice ja IA.length jc) IA from ((HJ6.out.keep (Keep.setCell (fun k hk => by show k ≠ w5.heap.size; have hk : (w5.alloc (.cells #[.string ⟨#[]⟩, .slice none 0 0] 27)).drew.heap.size ≤ k := hk; rw [show (w5.alloc (.cells #[.string ⟨#[]⟩, .slice none 0 0] 27)).drew.heap.size = w5.heap.size + 1 from World.size_alloc _ _] at hk; omega) _)).keep (Keep.setCell (fun k hk => by show k ≠ w5.heap.size; have hk : (w5.alloc (.cells #[.string ⟨#[]⟩, .slice none 0 0] 27)).drew.heap.size ≤ k := hk; rw [show (w5.alloc (.cells #[.string ⟨#[]⟩, .slice none 0 0] 27)).drew.heap.size = w5.heap.size + 1 from World.size_alloc _ _] at hk; omega) _)).mono (fun k hk => Nat.le_trans HZd.out hk)); have HOT := Lib.hid HTB.out.2.1; clear hj hb6)
                    | (go_at_call 72; refine (HFJ.out _ _ HAe.out).mono ?_; rintro e w6 ⟨ja, jc, jb, rfl, hj, hb6⟩; have HF6 := Lib.hid (HFe.out.next hb6); obtain ⟨d0, d1, d2, d3, d4, d5⟩ := (HF6.out.blk 2 rfl).cell6; have g9 : w6.cell? ⟨g, 9, none⟩ = some (.int .i64 dd) := (HF6.out.blk 0 rfl).cell 9; have g10 : w6.cell? ⟨g, 10, none⟩ = some (.int .i64 nn) := (HF6.out.blk 0 rfl).cell 10; have HF7 := Lib.hid (HF6.out.new' 27 #[.string ⟨IW.toArray⟩, .slice ja IA.length jc] (b := w6.heap.size) rfl); have HJ7 := Lib.hid ((hj.mono (q := fun k => ob + 1 ≤ k) (fun k hk => Nat.le_trans HTB.out.2.1 hk)).alloc (.cells #[.string ⟨IW.toArray⟩, .slice ja IA.length jc] 27)); have HOT := Lib.hid ((HF6.out.blk 1 rfl).lt); clear hj hb6))
                all_goals go_wp2_with fail
                all_goals go_meet
                all_goals exact ⟨_, _, _, rfl, HOT.out, HF7.out, HJ7.out⟩
              case rest =>
                obtain ⟨tb, ja, jc, rfl, hot, hf7, hj7⟩ := hcut
                clear HFd HAd HFe HAe HF5 HA5 HTN ne1 ne2 ne3 ne4 HTB HFJ HZd
                have HF7 := Lib.hid hf7
                have HJ7 := Lib.hid hj7
                clear hf7 hj7
                have ne1 : ob ≠ tb := by omega
                have ne2 : ob ≠ eb := by have := HEB.out.2; omega
                have ne3 : ob ≠ g := fun e => HGO.out e.symm
                have ne4 : tb ≠ ob := by omega
                have ne5 : eb ≠ ob := by have := HEB.out.2; omega
                have ne6 : g ≠ ob := HGO.out
                go_upto_region 18 with fail
                clear d0 d1 d2 d3 d4 d5 g9 g10
                have t0 : wc.cell? ⟨tb, 0, none⟩ = some (.string ⟨IW.toArray⟩) := (HF7.out.blk 0 rfl).cell 0
                have t1 : wc.cell? ⟨tb, 1, none⟩ = some (.slice ja IA.length jc) := (HF7.out.blk 0 rfl).cell 1
                have d5 : wc.cell? ⟨eb, 5, none⟩ = some (.bool f1) := (HF7.out.blk 3 rfl).cell 5
                have g1 : wc.cell? ⟨g, 1, none⟩ = some (.int .i64 K9) := (HF7.out.blk 1 rfl).cell 1
                have HG7 := Lib.hid HF7.out.drew
                have HJd := Lib.hid HJ7.out.drew
                have HRW := Lib.hid (raw_any g _ _ ⟨b0, o0, none⟩ c l K9 _ (HG7.out.blk 1 rfl) rfl (HS.out _ HG7.out.below) HKL.out HL.out)
                obtain ⟨R1, hR1⟩ : ∃ R, R = l.take K9 := ⟨_, rfl⟩
                rw [← hR1] at HRW
                have HR1 := Lib.hid hR1
                have HZ7 := Lib.hid ((HG7.out.blk 2 rfl).lt)
                clear hR1
                go_region_held3 (fun w' => w'.cell? ⟨tb, 0, none⟩ = some (.string ⟨IW.toArray⟩) ∧ w'.cell? ⟨tb, 1, none⟩ = some (.slice ja IA.length jc) ∧ w'.cell? ⟨eb, 5, none⟩ = some (.bool f1) ∧ w'.cell? ⟨g, 1, none⟩ = some (.int .i64 K9)) (go_keep)
                  (first | (go_at_call 85; refine (HRW.out).mono ?_; rintro e w8 ⟨v8, rfl, ho8, hb8⟩; obtain ⟨ra, rc, rfl⟩ := ho8.form; have HO8 := Lib.hid ho8; have HF8 := Lib.hid (HG7.out.next hb8); have HJ8 := Lib.hid (HJd.out.below hb8); obtain ⟨⟨c0, c1, c2, c3, c4⟩, f00, f01, f02, f03, f04⟩ := (HF8.out.blk 2 rfl).five; have t0 : w8.cell? ⟨tb, 0, none⟩ = some (.string ⟨IW.toArray⟩) := (HF8.out.blk 0 rfl).cell 0; have t1 : w8.cell? ⟨tb, 1, none⟩ = some (.slice ja IA.length jc) := (HF8.out.blk 0 rfl).cell 1; have d5 : w8.cell? ⟨eb, 5, none⟩ = some (.bool f1) := (HF8.out.blk 3 rfl).cell 5; have g1 : w8.cell? ⟨g, 1, none⟩ = some (.int .i64 K9) := (HF8.out.blk 1 rfl).cell 1; clear ho8 hb8))
                go_wp2
                have F5 := Lib.hid ((HF8.out.sub (M := [(ob, 29, itm0), (g, tDec, dcC (.slice (some ⟨b0, o0, none⟩) l.length c) (.slice qa m qc) p1 o1 ⟨i1.toArray⟩ (.slice va l1.length vc) ⟨s1.toArray⟩ f1 K9 dd nn)]) (fun x hx => by rcases List.mem_cons.1 hx with e | hx; rw [e]; simp; rw [List.mem_singleton.1 hx]; simp)).set5 HOG.out (fun x hx => by rw [List.mem_singleton.1 hx]; exact HGO.out) (.int .i64 1) (.slice ra R1.length rc) (.string ⟨IW.toArray⟩) (.slice ja IA.length jc) (.bool f1))
                rw [if_neg (by have := HKL.out; omega)] at HIN
                exact bodyPost_ret (item_end rfl rfl (F5.out.blk 0 rfl) rfl) rfl (IteP.ret (HIF.out.trans HIN.out) (by show ¬ (1 : Int) = 4; decide) F5.out.below (F5.out.blk 1 rfl) rfl ((ItmR.off5 (B := ob + 1) (ItmR.full HO8.out HR1.out HJ8.out HZ7.out) (Nat.lt_succ_self _) _ _ _ _ _).base (by have := HOG.out; omega)))
            · have HKN := Lib.hid hKL
              clear hKL
              go_wp2_with (go_at_call 129; refine (HXF.out _ _ _ (HF4.out.blk 0 rfl) HF4.out.below).mono ?_; rintro e w5 ⟨hg5, hx5⟩; rw [if_neg HKN.out] at hx5; obtain ⟨rfl, kx, dx, nx, hb5⟩ := hx5; have HF5 := Lib.hid (HF4.out.grow hg5 hb5 HG.out HON3.out); clear hg5 hb5)
              exact ⟨rfl, IteP.cut (by rw [HIF.out, HIN.out, if_pos (by have := HKN.out; omega)]) HF5.out.below ⟨⟨p1, o1, i1, l1, s1, f1⟩, va, qa, l1.length, vc, qc, kx, dx, nx, by rw [HQ.out, HMM.out]; exact HF5.out.blk 0 rfl, .inr ⟨HPS.out, HNA.out⟩⟩⟩
        · have HGO2 := Lib.hid (HI.out.go' HP0.out HMP.out hpr)
          rw [at_pre hq7 (bAt_lt l m) hpr] at HAT
          have HY := Lib.hid (bAt_get HMP.out)
          generalize l[m]'HMP.out = y at *
          go_upto_region 9 with (first
            | (go_at_call 128; refine (HPG.out _ (Below.refl _ _)).mono ?_; rintro e w1 ⟨rfl, hb⟩; have HF1 := Lib.hid (HF.out.next hb); have HO1 := Lib.hid (HO.out.stay hb); have HZ1 := Lib.hid (Nat.le_trans HZ.out hb.size); clear hb)
            | (go_at_call 130; refine (dtake_yes g _ _ (some ⟨b0, o0, none⟩) c l m _ (HF1.out.blk 0 rfl) rfl rfl (HS.out _ HF1.out.below) HP.out HMP.out HL.out).mono ?_; rintro e w2 ⟨rfl, hk2, hg2⟩; have HF2 := Lib.hid (show Fr wz [(g, tDec, dcC (.slice (some ⟨b0, o0, none⟩) l.length c) (.slice qa m qc) 0 0 ⟨#[]⟩ (.slice none 0 0) ⟨#[]⟩ false (m + 1) 0 0), (ob, 29, itm0)] w2 from HF1.out.grow hg2 hk2 HG.out HON.out); have HO2 := Lib.hid (HO1.out.keep (Keep.grown hg2 (fun k hk => by rcases hk with hk | hk; exact hk.elim; exact ⟨(HO1.out.lt k hk).2, fun e => by have := (HO1.out.lt k hk).1; have := HGW.out; have := Option.some.inj e; omega⟩))); have HZ2 := Lib.hid (Nat.le_trans HZ1.out hg2.size); clear hk2 hg2)
            | (go_at_call 33; refine (HAT.out _ (HTS.out _ HF2.out.below)).mono ?_; rintro e w3 ⟨rfl, hb⟩; have HF3 := Lib.hid ((HF2.out.next hb).alloc (.cells #[.int .i64 0, .int .u8 0, .string ⟨#[]⟩, .slice none 0 0, .string ⟨#[]⟩, .bool false] tEnt)); have HO3 := Lib.hid ((HO2.out.stay hb).stay ((Below.refl _ _).alloc (Nat.le_refl _) (.cells #[.int .i64 0, .int .u8 0, .string ⟨#[]⟩, .slice none 0 0, .string ⟨#[]⟩, .bool false] tEnt))); have HZ3 := Lib.hid (Nat.le_trans HZ2.out (Nat.le_trans hb.size ((Below.refl _ _).alloc (Nat.le_refl _) (.cells #[.int .i64 0, .int .u8 0, .string ⟨#[]⟩, .slice none 0 0, .string ⟨#[]⟩, .bool false] tEnt)).size)); clear hb; unfold ent0))
          rw [HY.out]
          generalize w3.alloc (.cells #[.int .i64 0, .int .u8 0, .string ⟨#[]⟩, .slice none 0 0, .string ⟨#[]⟩, .bool false] tEnt) = W3 at *
          obtain ⟨P2, hP2⟩ : ∃ P, P = prefF q ++ [y] := ⟨_, rfl⟩
          have HP2 := Lib.hid hP2
          have HLN : Hid (P2.length = m + 1) := Lib.hid (by rw [hP2, List.length_append, HMM.out]; rfl)
          have HGP := Lib.hid (HGO2.out.2.2)
          rw [← hP2] at HGP
          clear hP2
          have g2 : W3.cell? ⟨g, 2, none⟩ = some (.slice qa m qc) := (HF3.out.blk 0 rfl).cell 2
          have HX : Hid (SlR byteR (W3.alloc (.cells #[.int .u8 y.toNat] 5)) (fun k => W3.heap.size ≤ k) (.slice (some ⟨W3.heap.size, 0, none⟩) 1 1) [y]) := Lib.hid (slR_lit W3 5 (fun k => W3.heap.size ≤ k) [y] #[.int .u8 y.toNat] 1 rfl rfl (by simp) (fun _ h => h))
          have hbx : RowKit.Below W3.heap.size W3 (W3.alloc (.cells #[.int .u8 y.toNat] 5)) := (Below.refl _ _).alloc (Nat.le_refl _) _
          have HOX := Lib.hid (HO3.out.stay hbx)
          have HFX := Lib.hid (HF3.out.next hbx)
          have HQX : Hid (∀ k, W3.heap.size ≤ k → some k ≠ Value.ownBlock (.slice qa m qc)) := Lib.hid (fun k hk e => by have := (HO3.out.lt k e.symm).2; omega)
          have HZX := Lib.hid (Nat.le_trans HZ3.out hbx.size)
          have HNX : Hid (∀ x ∈ [(g, tDec, dcC (.slice (some ⟨b0, o0, none⟩) l.length c) (.slice qa m qc) 0 0 ⟨#[]⟩ (.slice none 0 0) ⟨#[]⟩ false (m + 1) 0 0), (ob, 29, itm0)], some x.1 ≠ Value.ownBlock (.slice qa m qc)) := Lib.hid (fun x hx e => by
            have h1 := (HO3.out.lt _ e.symm).1
            rcases List.mem_cons.1 hx with e2 | hx
            · rw [e2] at h1; have h1 : ob + 1 ≤ g := h1; have := HGW.out; omega
            · rw [List.mem_singleton.1 hx] at h1; have h1 : ob + 1 ≤ ob := h1; omega)
          clear hbx
          go_wp2_with (at_builtin; refine wpList_append_R _ rfl (.tmp 41) (.tmp 43) 22 rfl (ob + 1) 5 1 elByte NoB _ _ _ (prefF q) [y] rfl rfl HOX.out HX.out (fun _ h => False.elim h) HQX.out (by rw [HMM.out]; simp; omega) (by rw [HMM.out]; simp; omega) HZX.out ?_; intro v' w' hap; obtain ⟨ho, hg4, _⟩ := hap; rw [← HP2.out] at ho; obtain ⟨za, zc, rfl⟩ := (ho.flat NoB).form; rw [HLN.out] at ho ⊢; have HO4 := Lib.hid (ho.flat NoB); have HF4 := Lib.hid (HFX.out.grownO hg4 (fun k e => by have := (HO3.out.lt k e).1; have := HOG.out; omega) HNX.out); have HZ4 := Lib.hid (Nat.le_trans HZX.out hg4.size); have g2 := (HF4.out.blk 0 rfl).cell 2; have z2 := (HF4.out.blk 0 rfl).free 2; unfold dcC at g2; clear ho hg4)
          have HF5 := Lib.hid (show Fr wz [(g, tDec, dcC (.slice (some ⟨b0, o0, none⟩) l.length c) (.slice za (m + 1) zc) 0 0 ⟨#[]⟩ (.slice none 0 0) ⟨#[]⟩ false (m + 1) 0 0), (ob, 29, itm0)] (w'.setCell ⟨g, 2, none⟩ (.slice za (m + 1) zc)) from HF4.out.set HG.out HON.out 2 (.slice za (m + 1) zc))
          trace_state
          go_roundw
          case rel => exact ⟨nx q (bAt l m), za, zc, HGO2.out.1, by rw [HGP.out, HLN.out]; exact HF5.out, by rw [World.size_setCell]; exact HZ4.out, by rw [HGP.out, HLN.out]; exact HO4.out.off (by have := HGW.out; omega) 2 _⟩
          case measure => rw [preLeft_eq ((HF5.out.blk 0 rfl).cell 2), HML.out]; omega
end Go.Proofs.YtjmekllgnhkodaaGreatDoor
