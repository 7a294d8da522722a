/-
  (*decode.decoder).extra. Conditions: the letters of an entry; sizes.
-/
import Derived.Test.YtjmekllgnhkodaaGreatDoorD2
import Derived.Test.YtjmekllgnhkodaaGreatDoorEX
namespace Go.Proofs.YtjmekllgnhkodaaGreatDoor
open Go.RowKit Go.Shelf Go.Sort

theorem dgrown_put {w w1 : World} {g b : Nat} (h : w.grownBy w1 (some g)) (hb : w.heap.size ≤ b) (o : Obj) : w.grownBy (w1.putObj b o) (some g) :=
  ⟨h.os, h.tape, h.output, by rw [World.putObj_size]; exact h.size, fun k hk hr => (World.putObj_heap_other (by omega)).trans (h.block k hk hr)⟩
theorem dgrown_set {w w1 : World} {g : Nat} (h : w.grownBy w1 (some g)) (i : Nat) (v : Value) : w.grownBy (w1.setCell ⟨g, i, none⟩ v) (some g) :=
  ⟨h.os, h.tape, h.output, by rw [World.size_setCell]; exact h.size, fun k hk hr => (Below.heap_setCell _ _ _ _ (fun e => hr (by rw [e]))).trans (h.block k hk hr)⟩
theorem grown_2 {w w1 w2 : World} {g : Nat} (h : w.grownBy w1 (some g)) (h2 : w1.grownBy w2 (some g)) : w.grownBy w2 (some g) := grown_step h h2
theorem putObj_blk {w : World} {g b : Nat} {t : TypeId} {cs : Array Value} (h : Blk w g t cs) (hb : g ≠ b) (o : Obj) : Blk (w.putObj b o) g t cs := (World.putObj_heap_other hb).trans h
theorem World.heap_setCell_iter {w : World} {ib g i : Nat} {ex : ByteArray} {j : Nat} {v : Value} (h : w.heap[ib]? = some (.stringIter ex j)) (hne : g ≠ ib) : (w.setCell ⟨g, i, none⟩ v).heap[ib]? = some (.stringIter ex j) := (Below.heap_setCell _ _ _ _ (fun e => hne e.symm)).trans h
theorem rdN_pos {ex : List UInt8} (h : ex ≠ []) : 0 < rdN ex := by
  cases ex with
  | nil => exact absurd rfl h
  | cons c ex => rw [rdN]; split <;> omega
/-- what extra leaves behind -/
def ExtP (w : World) (g : Nat) (E : Nat → Int → Int → Array Value) (L K : Nat) (r : Int × Int) (e : Ending) (w' : World) : Prop :=
  w.grownBy w' (some g) ∧ (if K ≤ L then e = .returned (.tuple #[]) ∧ Blk w' g tDec (E K r.1 r.2) else e = .panicked missP ∧ ∃ k d n, Blk w' g tDec (E k d n))
theorem ExtP.no {w w' : World} {g : Nat} {E : Nat → Int → Int → Array Value} {L K k : Nat} {r : Int × Int} {d n : Int} (h : ¬ K ≤ L) (hg : w.grownBy w' (some g)) (hb : Blk w' g tDec (E k d n)) : ExtP w g E L K r (.panicked missP) w' := ⟨hg, by rw [if_neg h]; exact ⟨rfl, k, d, n, hb⟩⟩
theorem ExtP.yes {w w' : World} {g : Nat} {E : Nat → Int → Int → Array Value} {L K : Nat} {r : Int × Int} {v : Value} (h : K ≤ L) (hv : v = .tuple #[]) (hg : w.grownBy w' (some g)) (hb : Blk w' g tDec (E K r.1 r.2)) : ExtP w g E L K r (.returned v) w' := ⟨hg, by rw [if_pos h, hv]; exact ⟨rfl, hb⟩⟩
set_option maxHeartbeats 16000000 in
set_option maxRecDepth 100000 in
theorem extra_any (g : Nat) (a : Option Addr) (c : Nat) (vq : Value) (pg op : Int) (iop : ByteArray) (va : Value) (xb : ByteArray) (al : Bool) (ex : ByteArray) (hex : ∀ k (h : k < ex.size), okLet ex[k]) (hes : ex.size ≤ 1000) (p : Blocks) (l : List UInt8) (hp : ∀ b, p b → b ≠ g) (hl : l.length ≤ 1000000) (k : Nat) (hk : k ≤ l.length) (d n : Int) (w : World)
    (h : Blk w g tDec (dcC (.slice a l.length c) vq pg op iop va xb al k d n)) (hs : SlR byteR w p (.slice a l.length c) l) :
    Calls Tryz.prog 129 #[.pointer (some ⟨g, 0, none⟩), .string ex] w (ExtP w g (dcC (.slice a l.length c) vq pg op iop va xb al) l.length (k + rdN ex.data.toList) (rdF ex.data.toList l k d n)) := by
  have HEX := Lib.hid hex
  have HES := Lib.hid hes
  have HP := Lib.hid hp
  have HL := Lib.hid hl
  have HK := Lib.hid hk
  have HB := Lib.hid h
  have HS := Lib.hid hs
  clear hex hes hp hl hk h hs
  obtain ⟨E, hE⟩ : ∃ E, E = dcC (.slice a l.length c) vq pg op iop va xb al := ⟨_, rfl⟩
  rw [← hE] at HB ⊢
  have HE := Lib.hid hE
  clear hE
  have HI : Hid ((w.iter ex 0).heap[w.heap.size]? = some (.stringIter ex 0)) := World.iter_heap w ex 0
  have HG : Hid (w.grownBy (w.iter ex 0) (some g)) := Lib.hid (grown_of g ((Below.refl _ _).alloc (Nat.le_refl _) _))
  have HB0 : Hid (Blk (w.iter ex 0) g tDec (E k d n)) := Lib.hid (HB.out.alloc _)
  have HGL : Hid (g < w.heap.size) := HB.out.lt
  go_enter Tryz.func129, Tryz.ntmps129
  go_wp2
  generalize w.iter ex 0 = W0 at *
  obtain ⟨ib, hib⟩ : ∃ ib, ib = w.heap.size := ⟨_, rfl⟩
  rw [← hib]
  have HIB := Lib.hid hib
  have HNE : Hid (g ≠ ib) := Lib.hid (by have := HGL.out; have := HIB.out; omega)
  have HSG : Hid (∀ W, w.grownBy W (some g) → SlR byteR W p (.slice a l.length c) l) := Lib.hid (fun W hW => (HS.out.old.keep (Keep.grown hW (fun k hk => ⟨hk.2, fun e => HP.out k hk.1 (Option.some.inj e)⟩))).mono (fun k hk => hk.1))
  have HE0 : Hid (∀ k d n, (E k d n)[0]? = some (.slice a l.length c)) := Lib.hid (fun k d n => by rw [HE.out]; rfl)
  have HE1 : Hid (∀ (k : Nat) d n, (E k d n)[1]? = some (.int .i64 k)) := Lib.hid (fun k d n => by rw [HE.out]; rfl)
  have HE9 : Hid (∀ (k : Nat) d n, (E k d n)[9]? = some (.int .i64 d)) := Lib.hid (fun k d n => by rw [HE.out]; rfl)
  have HE10 : Hid (∀ (k : Nat) d n, (E k d n)[10]? = some (.int .i64 n)) := Lib.hid (fun k d n => by rw [HE.out]; rfl)
  have HS1 : Hid (∀ (k k' : Nat) d n, (E k d n).setIfInBounds 1 (.int .i64 k') = E k' d n) := Lib.hid (fun k k' d n => by rw [HE.out]; rfl)
  have HS9 : Hid (∀ (k : Nat) d d' n, (E k d n).setIfInBounds 9 (.int .i64 d') = E k d' n) := Lib.hid (fun k d d' n => by rw [HE.out]; rfl)
  have HS10 : Hid (∀ (k : Nat) d n n', (E k d n).setIfInBounds 10 (.int .i64 n') = E k d n') := Lib.hid (fun k d n n' => by rw [HE.out]; rfl)
  clear HE HS HB hib
  rw [← HIB.out] at HI
  go_loopw [5, 6] (fun _ _ wr => ∃ j kk dd nn, j ≤ ex.size ∧ wr.heap[ib]? = some (.stringIter ex j) ∧ w.grownBy wr (some g) ∧ Blk wr g tDec (E kk dd nn) ∧ kk ≤ l.length ∧ kk + rdN (ex.data.toList.drop j) = k + rdN ex.data.toList ∧ rdF (ex.data.toList.drop j) l kk dd nn = rdF ex.data.toList l k d n) (fun _ _ wr => iterLeft wr ib)
  case atStart => exact ⟨0, k, d, n, Nat.zero_le _, HI.out, HG.out, HB0.out, HK.out, rfl, rfl⟩
  case round =>
    obtain ⟨j, kk, dd, nn, hj, hi, hg, hb, hkk, hn, hr⟩ := hrel
    clear HI HG HB0
    have HB := Lib.hid hb
    have HG := Lib.hid hg
    have HN := Lib.hid hn
    have HR := Lib.hid hr
    have HML := Lib.hid (iterLeft_eq hi)
    clear hg hb hn hr
    by_cases hlt : j < ex.size
    · have hlet := HEX.out j hlt
      have hnx := fun ty => run_next_at (W := wr) ty hi hlt (by rcases hlet with e | e | e | e <;> rw [e] <;> decide)
      have HI9 := Lib.hid (World.putObj_heap_same (w := wr) (r := ib) (o := .stringIter ex (j + 1)) (Array.getElem?_eq_some_iff.1 hi).1)
      have HB9 := Lib.hid (putObj_blk HB.out HNE.out (.stringIter ex (j + 1)))
      have HG9 := Lib.hid (dgrown_put HG.out (Nat.le_of_eq HIB.out.symm) (.stringIter ex (j + 1)))
      have HS9' := Lib.hid (HSG.out _ HG9.out)
      have HJ := Lib.hid hlt
      have HD : Hid (ex.data.toList.drop j = ex[j] :: ex.data.toList.drop (j + 1)) := Lib.hid (by rw [List.drop_eq_getElem_cons (by simpa using hlt)]; rfl)
      generalize hW9 : wr.putObj ib (.stringIter ex (j + 1)) = W9 at *
      clear hi HG HB hj hW9
      generalize ex[j] = b9 at *
      rcases hlet with rfl | rfl | rfl | rfl
      · by_cases hk9 : kk < l.length
        · have HLT9 := Lib.hid hk9
          have HR9 : Hid (rdF (ex.data.toList.drop (j + 1)) l (kk + 1) (sg (bAt l kk)) nn = rdF ex.data.toList l k d n) := Lib.hid (HR.out.symm.trans (by rw [HD.out]; rfl)).symm
          have HN9 : Hid (kk + 1 + rdN (ex.data.toList.drop (j + 1)) = k + rdN ex.data.toList) := Lib.hid (by rw [← HN.out, HD.out, rdN, if_neg (by decide)]; omega)
          have hw9 : IntKind.i64.wrap (bAt l kk : Int) = bAt l kk := by have := bAt_lt l kk; rw [IntKind.wrap_i64]; omega
          clear HR HN HD hk9
          go_wp2_with (first
            | (go_at_call 130; refine (dtake_yes g _ p a c l kk _ HB9.out (HE0.out _ _ _) (HE1.out _ _ _) HS9'.out HP.out HLT9.out HL.out).mono ?_; rintro e w2 ⟨rfl, hb2, hg2⟩; rw [HS1.out] at hb2; have HB2 := Lib.hid hb2; have HG2 := Lib.hid (grown_2 HG9.out hg2); have HI2 := Lib.hid ((hg2.block ib (Array.getElem?_eq_some_iff.1 HI9.out).1 (fun e => HNE.out (Option.some.inj e).symm)).trans HI9.out); have z9 := HB2.out.free 9; have c9 := (HB2.out.cell 9).trans (HE9.out _ _ _); have z10 := HB2.out.free 10; have c10 := (HB2.out.cell 10).trans (HE10.out _ _ _); clear hb2 hg2)
            | (go_at_call 169; refine (signed_any _ (bAt_lt _ _) _).mono ?_; rintro e w3 ⟨rfl, hw3⟩; subst w3))
          go_roundw
          case rel => exact ⟨j + 1, kk + 1, _, _, HJ.out, (World.heap_setCell_iter HI2.out HNE.out), dgrown_set HG2.out _ _, by have := HB2.out.set 9 (.int .i64 (sg (bAt l kk))); rw [HS9.out] at this; exact this, HLT9.out, HN9.out, HR9.out⟩
          case measure => rw [iterLeft_eq (World.heap_setCell_iter HI2.out HNE.out), HML.out]; have := HJ.out; omega
        · have HN9 : Hid (¬ k + rdN ex.data.toList ≤ l.length) := Lib.hid (by rw [← HN.out, HD.out, rdN]; split <;> omega)
          clear HR HN HD
          go_wp2_with (go_at_call 130; refine (dtake_no g _ a l.length c kk _ HB9.out (HE0.out _ _ _) (HE1.out _ _ _) (by omega)).mono ?_; rintro e w2 ⟨rfl, hb2⟩; have HBZ := Lib.hid (HB9.out.below hb2 HB9.out.lt); have HGZ := Lib.hid (grown_2 HG9.out (grown_of g hb2)); clear hb2)
          exact ⟨rfl, ExtP.no HN9.out HGZ.out HBZ.out⟩
      · by_cases hk9 : kk < l.length
        · have HLT9 := Lib.hid hk9
          have HR9 : Hid (rdF (ex.data.toList.drop (j + 1)) l (kk + 1) dd (sg (bAt l kk)) = rdF ex.data.toList l k d n) := Lib.hid (HR.out.symm.trans (by rw [HD.out]; rfl)).symm
          have HN9 : Hid (kk + 1 + rdN (ex.data.toList.drop (j + 1)) = k + rdN ex.data.toList) := Lib.hid (by rw [← HN.out, HD.out, rdN, if_neg (by decide)]; omega)
          have hw9 : IntKind.i64.wrap (bAt l kk : Int) = bAt l kk := by have := bAt_lt l kk; rw [IntKind.wrap_i64]; omega
          clear HR HN HD hk9
          go_wp2_with (first
            | (go_at_call 130; refine (dtake_yes g _ p a c l kk _ HB9.out (HE0.out _ _ _) (HE1.out _ _ _) HS9'.out HP.out HLT9.out HL.out).mono ?_; rintro e w2 ⟨rfl, hb2, hg2⟩; rw [HS1.out] at hb2; have HB2 := Lib.hid hb2; have HG2 := Lib.hid (grown_2 HG9.out hg2); have HI2 := Lib.hid ((hg2.block ib (Array.getElem?_eq_some_iff.1 HI9.out).1 (fun e => HNE.out (Option.some.inj e).symm)).trans HI9.out); have z9 := HB2.out.free 9; have c9 := (HB2.out.cell 9).trans (HE9.out _ _ _); have z10 := HB2.out.free 10; have c10 := (HB2.out.cell 10).trans (HE10.out _ _ _); clear hb2 hg2)
            | (go_at_call 169; refine (signed_any _ (bAt_lt _ _) _).mono ?_; rintro e w3 ⟨rfl, hw3⟩; subst w3))
          go_roundw
          case rel => exact ⟨j + 1, kk + 1, _, _, HJ.out, (World.heap_setCell_iter HI2.out HNE.out), dgrown_set HG2.out _ _, by have := HB2.out.set 10 (.int .i64 (sg (bAt l kk))); rw [HS10.out] at this; exact this, HLT9.out, HN9.out, HR9.out⟩
          case measure => rw [iterLeft_eq (World.heap_setCell_iter HI2.out HNE.out), HML.out]; have := HJ.out; omega
        · have HN9 : Hid (¬ k + rdN ex.data.toList ≤ l.length) := Lib.hid (by rw [← HN.out, HD.out, rdN]; split <;> omega)
          clear HR HN HD
          go_wp2_with (go_at_call 130; refine (dtake_no g _ a l.length c kk _ HB9.out (HE0.out _ _ _) (HE1.out _ _ _) (by omega)).mono ?_; rintro e w2 ⟨rfl, hb2⟩; have HBZ := Lib.hid (HB9.out.below hb2 HB9.out.lt); have HGZ := Lib.hid (grown_2 HG9.out (grown_of g hb2)); clear hb2)
          exact ⟨rfl, ExtP.no HN9.out HGZ.out HBZ.out⟩
      · by_cases hk9 : kk < l.length
        · have HLT9 := Lib.hid hk9
          have HR9 : Hid (rdF (ex.data.toList.drop (j + 1)) l (kk + 1) dd (bAt l kk) = rdF ex.data.toList l k d n) := Lib.hid (HR.out.symm.trans (by rw [HD.out]; rfl)).symm
          have HN9 : Hid (kk + 1 + rdN (ex.data.toList.drop (j + 1)) = k + rdN ex.data.toList) := Lib.hid (by rw [← HN.out, HD.out, rdN, if_neg (by decide)]; omega)
          have hw9 : IntKind.i64.wrap (bAt l kk : Int) = bAt l kk := by have := bAt_lt l kk; rw [IntKind.wrap_i64]; omega
          clear HR HN HD hk9
          go_wp2_with (first
            | (go_at_call 130; refine (dtake_yes g _ p a c l kk _ HB9.out (HE0.out _ _ _) (HE1.out _ _ _) HS9'.out HP.out HLT9.out HL.out).mono ?_; rintro e w2 ⟨rfl, hb2, hg2⟩; rw [HS1.out] at hb2; have HB2 := Lib.hid hb2; have HG2 := Lib.hid (grown_2 HG9.out hg2); have HI2 := Lib.hid ((hg2.block ib (Array.getElem?_eq_some_iff.1 HI9.out).1 (fun e => HNE.out (Option.some.inj e).symm)).trans HI9.out); have z9 := HB2.out.free 9; have c9 := (HB2.out.cell 9).trans (HE9.out _ _ _); have z10 := HB2.out.free 10; have c10 := (HB2.out.cell 10).trans (HE10.out _ _ _); clear hb2 hg2)
            | (go_at_call 169; refine (signed_any _ (bAt_lt _ _) _).mono ?_; rintro e w3 ⟨rfl, hw3⟩; subst w3))
          go_roundw
          case rel => exact ⟨j + 1, kk + 1, _, _, HJ.out, (World.heap_setCell_iter HI2.out HNE.out), dgrown_set HG2.out _ _, by have := HB2.out.set 10 (.int .i64 (bAt l kk)); rw [HS10.out] at this; exact this, HLT9.out, HN9.out, HR9.out⟩
          case measure => rw [iterLeft_eq (World.heap_setCell_iter HI2.out HNE.out), HML.out]; have := HJ.out; omega
        · have HN9 : Hid (¬ k + rdN ex.data.toList ≤ l.length) := Lib.hid (by rw [← HN.out, HD.out, rdN]; split <;> omega)
          clear HR HN HD
          go_wp2_with (go_at_call 130; refine (dtake_no g _ a l.length c kk _ HB9.out (HE0.out _ _ _) (HE1.out _ _ _) (by omega)).mono ?_; rintro e w2 ⟨rfl, hb2⟩; have HBZ := Lib.hid (HB9.out.below hb2 HB9.out.lt); have HGZ := Lib.hid (grown_2 HG9.out (grown_of g hb2)); clear hb2)
          exact ⟨rfl, ExtP.no HN9.out HGZ.out HBZ.out⟩
      · by_cases hk9 : kk < l.length
        · have HLT9 := Lib.hid hk9
          have hw9 : IntKind.i64.wrap (bAt l kk : Int) = bAt l kk := by have := bAt_lt l kk; rw [IntKind.wrap_i64]; omega
          by_cases hk8 : kk + 1 < l.length
          · have HLT8 := Lib.hid hk8
            have HR9 : Hid (rdF (ex.data.toList.drop (j + 1)) l (kk + 1 + 1) dd ((bAt l kk : Int) + 256 * bAt l (kk + 1)) = rdF ex.data.toList l k d n) := Lib.hid (HR.out.symm.trans (by rw [HD.out]; rfl)).symm
            have HN9 : Hid (kk + 1 + 1 + rdN (ex.data.toList.drop (j + 1)) = k + rdN ex.data.toList) := Lib.hid (by rw [← HN.out, HD.out, rdN, if_pos rfl]; omega)
            have hw8 : IntKind.i64.wrap (bAt l (kk + 1) : Int) = bAt l (kk + 1) := by have := bAt_lt l (kk + 1); rw [IntKind.wrap_i64]; omega
            have hw7 : IntKind.i64.wrap ((bAt l (kk + 1) : Int) * 256) = 256 * bAt l (kk + 1) := by have := bAt_lt l (kk + 1); rw [IntKind.wrap_i64]; omega
            have hw6 : IntKind.i64.wrap ((bAt l kk : Int) + 256 * bAt l (kk + 1)) = (bAt l kk : Int) + 256 * bAt l (kk + 1) := by have := bAt_lt l kk; have := bAt_lt l (kk + 1); rw [IntKind.wrap_i64]; omega
            have tok : True := trivial
            clear HR HN HD hk9 hk8
            go_wp2_with (first
              | (have _t := tok; go_at_call 130; refine (dtake_yes g _ p a c l kk _ HB9.out (HE0.out _ _ _) (HE1.out _ _ _) HS9'.out HP.out HLT9.out HL.out).mono ?_; rintro e w2 ⟨rfl, hb2, hg2⟩; rw [HS1.out] at hb2; have HB7 := Lib.hid hb2; have HG7 := Lib.hid (grown_2 HG9.out hg2); have HI7 := Lib.hid ((hg2.block ib (Array.getElem?_eq_some_iff.1 HI9.out).1 (fun e => HNE.out (Option.some.inj e).symm)).trans HI9.out); have z9 := HB7.out.free 9; have c9 := (HB7.out.cell 9).trans (HE9.out _ _ _); have z10 := HB7.out.free 10; have c10 := (HB7.out.cell 10).trans (HE10.out _ _ _); clear hb2 hg2; have HS7 := Lib.hid (HSG.out _ HG7.out); clear tok _t)
              | (go_at_call 130; refine (dtake_yes g _ p a c l (kk + 1) _ HB7.out (HE0.out _ _ _) (HE1.out _ _ _) HS7.out HP.out HLT8.out HL.out).mono ?_; rintro e w2 ⟨rfl, hb2, hg2⟩; rw [HS1.out] at hb2; have HB2 := Lib.hid hb2; have HG2 := Lib.hid (grown_2 HG7.out hg2); have HI2 := Lib.hid ((hg2.block ib (Array.getElem?_eq_some_iff.1 HI7.out).1 (fun e => HNE.out (Option.some.inj e).symm)).trans HI7.out); have z9 := HB2.out.free 9; have c9 := (HB2.out.cell 9).trans (HE9.out _ _ _); have z10 := HB2.out.free 10; have c10 := (HB2.out.cell 10).trans (HE10.out _ _ _); clear hb2 hg2))
            go_roundw
            case rel => exact ⟨j + 1, kk + 1 + 1, _, _, HJ.out, (World.heap_setCell_iter HI2.out HNE.out), dgrown_set HG2.out _ _, by have := HB2.out.set 10 (.int .i64 ((bAt l kk : Int) + 256 * bAt l (kk + 1))); rw [HS10.out] at this; exact this, HLT8.out, HN9.out, HR9.out⟩
            case measure => rw [iterLeft_eq (World.heap_setCell_iter HI2.out HNE.out), HML.out]; have := HJ.out; omega
          · have HN9 : Hid (¬ k + rdN ex.data.toList ≤ l.length) := Lib.hid (by rw [← HN.out, HD.out, rdN, if_pos rfl]; omega)
            have tok : True := trivial
            clear HR HN HD hk9
            go_wp2_with (first
              | (have _t := tok; go_at_call 130; refine (dtake_yes g _ p a c l kk _ HB9.out (HE0.out _ _ _) (HE1.out _ _ _) HS9'.out HP.out HLT9.out HL.out).mono ?_; rintro e w2 ⟨rfl, hb2, hg2⟩; rw [HS1.out] at hb2; have HB7 := Lib.hid hb2; have HG7 := Lib.hid (grown_2 HG9.out hg2); have HI7 := Lib.hid ((hg2.block ib (Array.getElem?_eq_some_iff.1 HI9.out).1 (fun e => HNE.out (Option.some.inj e).symm)).trans HI9.out); have z9 := HB7.out.free 9; have c9 := (HB7.out.cell 9).trans (HE9.out _ _ _); have z10 := HB7.out.free 10; have c10 := (HB7.out.cell 10).trans (HE10.out _ _ _); clear hb2 hg2; clear tok _t)
              | (go_at_call 130; refine (dtake_no g _ a l.length c (kk + 1) _ HB7.out (HE0.out _ _ _) (HE1.out _ _ _) (by omega)).mono ?_; rintro e w2 ⟨rfl, hb2⟩; have HBZ := Lib.hid (HB7.out.below hb2 HB7.out.lt); have HGZ := Lib.hid (grown_2 HG7.out (grown_of g hb2)); clear hb2))
            exact ⟨rfl, ExtP.no HN9.out HGZ.out HBZ.out⟩
        · have HN9 : Hid (¬ k + rdN ex.data.toList ≤ l.length) := Lib.hid (by rw [← HN.out, HD.out, rdN]; split <;> omega)
          clear HR HN HD
          go_wp2_with (go_at_call 130; refine (dtake_no g _ a l.length c kk _ HB9.out (HE0.out _ _ _) (HE1.out _ _ _) (by omega)).mono ?_; rintro e w2 ⟨rfl, hb2⟩; have HBZ := Lib.hid (HB9.out.below hb2 HB9.out.lt); have HGZ := Lib.hid (grown_2 HG9.out (grown_of g hb2)); clear hb2)
          exact ⟨rfl, ExtP.no HN9.out HGZ.out HBZ.out⟩
    · obtain rfl : j = ex.size := by omega
      have hnx := fun ty => run_next_stop (W := wr) ty hi hlt
      have HDR : Hid (ex.data.toList.drop ex.size = []) := Lib.hid (List.drop_of_length_le (by simp))
      have HY : Hid (kk = k + rdN ex.data.toList ∧ (dd, nn) = rdF ex.data.toList l k d n) := Lib.hid (by
        have e1 := HN.out
        have e2 := HR.out
        rw [HDR.out] at e1 e2
        exact ⟨e1, e2⟩)
      have HKK := Lib.hid hkk
      clear HN HR HDR hkk hi
      go_wp2
      go_end0
      refine ExtP.yes (by rw [← HY.out.1]; exact HKK.out) rfl HG.out ?_
      rw [← HY.out.1, ← HY.out.2]
      exact HB.out
end Go.Proofs.YtjmekllgnhkodaaGreatDoor
