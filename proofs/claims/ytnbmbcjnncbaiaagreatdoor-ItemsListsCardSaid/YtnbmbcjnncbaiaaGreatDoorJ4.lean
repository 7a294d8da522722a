/-
  items.each's iterator. Conditions: the library's table as its initialiser lays it; sizes.
-/
import Derived.Test.YtnbmbcjnncbaiaaGreatDoorJ3
import Derived.Test.YtnbmbcjnncbaiaaGreatDoorQD
import Derived.Test.YtnbmbcjnncbaiaaGreatDoorPE
namespace Go.Proofs.YtnbmbcjnncbaiaaGreatDoor
open Go.RowKit Go.Shelf Go.Sort
attribute [local go_sem] Oper.semAt_some

theorem blk_of_cell {w : World} {b j : Nat} {v : Value} (h : w.cell? ⟨b, j, none⟩ = some v) : ∃ o, w.heap[b]? = some o ∧ o.isCells = true := by
  unfold World.cell? at h
  dsimp only at h
  split at h
  · rename_i c t fz hb; exact ⟨_, hb, rfl⟩
  · cases h
theorem SlR.tkY {w w' : World} {p P : Blocks} {v : Value} {xs : List UInt8} (h : SlR byteR w p v xs) (ht : Tk P w w') (hp : ∀ k, p k → P k) : SlR byteR w' p v xs := by
  obtain ⟨a, cap, e, h1, h2, h3⟩ := h
  refine ⟨a, cap, e, h1, h2, fun i x hx => ?_⟩
  obtain ⟨b, o, cs, ea, hb, hbs, hc, hr⟩ := h3 i x hx
  have hr2 : cs = [.int .u8 x.toNat] := hr
  obtain ⟨ob, ho, hoc⟩ := blk_of_cell (hc 0 _ (by rw [hr2]; rfl))
  have ho2 := ht b ob (hp b hb) ho hoc
  exact ⟨b, o, cs, ea, hb, (Array.getElem?_eq_some_iff.1 ho2).1, fun j v hv => (World.cell?_of_block (ho2.trans ho.symm)).trans (hc j v hv), hr⟩
theorem Spc.at {w : World} (h : Spc w) : 1 < w.heap.size := by
  have hg : Tryz.prog.globalNamed "strings.asciiSpace" = some 1 := by kernel_rfl
  exact World.block_lt_of_cell? w _ (h.cell hg 0 (by rw [Lib.asciiSpaceTab_length]; decide))
theorem Spc.tk {n0 : Nat} {A C : World} (h : Spc A) (hg : 1 < n0) (ht : Tk (fun k => k < n0) A C) : Spc C := by
  have hgn : Tryz.prog.globalNamed "strings.asciiSpace" = some 1 := by kernel_rfl
  unfold Spc Lib.TabIs World.var? at h ⊢
  simp only [hgn, Option.bind_some] at h ⊢
  cases hA : A.heap[1]? with
  | none => rw [hA] at h; cases h
  | some o =>
    cases o with
    | cells cs t fz => rw [hA] at h; rw [ht _ _ hg hA rfl]; exact h
    | _ => rw [hA] at h; cases h
/-- the arguments of yield -/
def encI (z : It × Value) : Array Value := #[z.2]
/-- what a round is told of the item that it is handed: its blocks were laid since a world that meets Φ -/
def RxT (Φ : World → Prop) (l : List UInt8) (pre : List (It × Value)) (z : It × Value) (W : World) : Prop :=
  (∃ (A : World) (q : Blocks), Φ A ∧ RowKit.Below A.heap.size A W ∧ ItP W q z.1 z.2 ∧ ∀ k, q k → A.heap.size ≤ k ∧ k < W.heap.size) ∧ (pre.map (·.1) ++ [z.1]) <+: itemsF l
theorem ItP.old {w : World} {p : Blocks} {x : It} {v : Value} (h : ItP w p x v) : ItP w (fun k => p k ∧ k < w.heap.size) x v := by
  obtain ⟨ra, rc, va, vc, e, h1, h2⟩ := h
  exact ⟨ra, rc, va, vc, e, h1.old, h2.old⟩
set_option maxHeartbeats 4000000 in
set_option maxRecDepth 100000 in
theorem each_seq (T : World → World → Prop) (Φ : World → Prop) (n0 bb : Nat) (a : Option Addr) (c : Nat) (l : List UInt8) (p : Blocks) (w : World) (hB : Blk w bb 22 #[.slice a l.length c]) (hbb : bb < n0) (hs : SlR byteR w p (.slice a l.length c) l) (hp : ∀ k, p k → k < n0) (hT : Spc w) (hg : 1 < n0) (hl : l.length ≤ 1000000)
    (hTk : ∀ A C, T A C → Tk (fun k => k < n0) A C) (hΦ0 : Φ w) (hΦB : ∀ A C, RowKit.Below A.heap.size A C → Φ A → Φ C) (hΦT : ∀ A C, T A C → Φ A → Φ C) :
    MemSeqX Fence.wide 8 Tryz.prog 91 #[.pointer (some ⟨bb, 0, none⟩)] encI T (RxT Φ l) (fun xs => xs.map (·.1) = itemsF l) (fun pre => pre.map (·.1) <+: itemsF l) w := by
  intro b J Jx W hW hJ hJx hY h0
  have HTK := Lib.hid hTk
  have HPB := Lib.hid hΦB
  have HPT := Lib.hid hΦT
  have HP0 := Lib.hid (show Φ W from hΦB _ _ (hW.mono (Nat.le_refl _)) hΦ0)
  have HB := Lib.hid (hB.below hW hB.lt)
  have HS := Lib.hid (hs.below hW)
  have HSP := Lib.hid (hT.below hW)
  have HJ := Lib.hid hJ
  have HJx := Lib.hid hJx
  have HY := Lib.hid hY
  have H0 := Lib.hid h0
  have HPN := Lib.hid hp
  have HGN := Lib.hid hg
  have HBB := Lib.hid hbb
  have HL := Lib.hid hl
  clear hTk hΦ0 hΦB hΦT hW hJ hJx hY h0 hB hs hT hp hg hl hbb
  refine callsIn_of_wp Tryz.func91 rfl trivial ?_ rfl
  simp only [Tryz.ntmps91, List.size_toArray, List.length_cons, List.length_nil, Nat.reduceAdd, Nat.reduceSub, Array.replicate_succ, Array.replicate_zero, List.push_toArray, List.append_toArray, List.nil_append, List.cons_append]
  gi_wp2
  gi_loopw [3, 4, 5, 6] (fun i _ _ _ wr => ∃ (pre : List (It × Value)) (k : Nat), k ≤ l.length ∧ i = .int .i64 k ∧ pre.map (·.1) ++ itemsF (l.drop k) = itemsF l ∧ Blk wr bb 22 #[.slice a l.length c] ∧ SlR byteR wr p (.slice a l.length c) l ∧ Spc wr ∧ Φ wr ∧ J pre wr) (fun i _ _ _ _ => l.length - (intOf i).toNat)
  case atStart => exact ⟨[], 0, Nat.zero_le _, rfl, rfl, HB.out, HS.out, HSP.out, HP0.out, H0.out⟩
  case round =>
    obtain ⟨pre, k, hk, rfl, hpre, hb, hs, hsp, hph, hj⟩ := hrel
    clear HB HS HSP HP0 H0
    have HPR := Lib.hid hpre
    have HB := Lib.hid hb
    have HS := Lib.hid hs
    have HSP := Lib.hid hsp
    have HPH := Lib.hid hph
    have HJW := Lib.hid hj
    have d0 := hb.cell 0
    clear hpre hb hs hsp hph hj
    by_cases hlt : k < l.length
    · have HAT := Lib.hid (At_yes p a c l k wr HSP.out HS.out hlt HL.out)
      have hL0 : 0 < (l.drop k).length := by rw [List.length_drop]; omega
      have HCO := Lib.hid (itemsF_cons hL0)
      have HNL := Lib.hid (show ((l.drop k).take (itF (l.drop k)).n).length = (itF (l.drop k)).n ∧ 1 ≤ (itF (l.drop k)).n ∧ k + (itF (l.drop k)).n ≤ l.length from ⟨itF_raw _ hL0, (itF_n _ hL0).1, by have := (itF_n _ hL0).2; rw [List.length_drop] at this; omega⟩)
      have HDR : Hid (l.drop (k + (itF (l.drop k)).n) = (l.drop k).drop (itF (l.drop k)).n) := Lib.hid (by rw [List.drop_drop])
      obtain ⟨R1, hR1⟩ : ∃ R, R = (l.drop k).take (itF (l.drop k)).n := ⟨_, rfl⟩
      have HX0 : Hid ((itF (l.drop k)).it (l.drop k) = ⟨(itF (l.drop k)).k, R1, (itF (l.drop k)).op, (itF (l.drop k)).args, (itF (l.drop k)).al⟩) := Lib.hid (by rw [hR1]; rfl)
      rw [← hR1] at HNL HAT
      have HR1 := Lib.hid hR1
      clear hR1 hL0
      generalize l.drop k = L at *
      generalize itF L = IT at *
      gi_wp2_with (refine ⟨trivial, ?_⟩; gi_at_call 23; refine (callsIn_wide.2 HAT.out).mono ?_; rintro e w2 ⟨⟨v2, rfl, hi⟩, hb2⟩; obtain ⟨ra, rc, va, vc, hv, x1, x2⟩ := hi; unfold itmV at hv; rw [← HR1.out] at hv x1; subst hv; have HBN : Hid (RowKit.Below w2.heap.size w2 (w2.alloc (.cells #[.int .i64 IT.k, .slice ra R1.length rc, .string ⟨IT.op.toArray⟩, .slice va IT.args.length vc, .bool IT.al] 29))) := Lib.hid ((Below.refl _ _).alloc (Nat.le_refl _) _); have HB2 := Lib.hid hb2; have HB3 := Lib.hid (hb2.trans (HBN.out.mono hb2.size)); obtain ⟨fn, tmps, assign, body, hy, hR⟩ := HY.out pre (⟨IT.k, R1, IT.op, IT.args, IT.al⟩, .agg #[.int .i64 IT.k, .slice ra R1.length rc, .string ⟨IT.op.toArray⟩, .slice va IT.args.length vc, .bool IT.al]) _ (HJ.out _ _ _ HJW.out HB3.out) ⟨⟨wr, fun k => wr.heap.size ≤ k ∧ k < w2.heap.size, HPH.out, HB3.out, ⟨ra, rc, va, vc, rfl, x1.old.below HBN.out, x2.old.below HBN.out⟩, fun k hk => ⟨hk.1, Nat.lt_of_lt_of_le hk.2 HBN.out.size⟩⟩, ⟨itemsF (L.drop IT.n), by rw [← HPR.out, HCO.out, HX0.out, List.append_assoc]; rfl⟩⟩; have HR := Lib.hid hR; dsimp only [encI] at hy; clear x1 x2 hb2 hR)
      refine HR.out.mono ?_
      rintro e W' (⟨rfl, hj3, hT⟩ | ⟨rfl, hjx⟩)
      · have HJ3 := Lib.hid hj3
        have ht := (Tk.below (p := fun k => k < n0) HB3.out).trans (HTK.out _ _ hT)
        have HB' := Lib.hid (ht.blk HB.out HBB.out)
        have HS' := Lib.hid (HS.out.tkY ht HPN.out)
        have HSP' := Lib.hid (HSP.out.tk HGN.out ht)
        have HPH' := Lib.hid (HPT.out _ _ hT (HPB.out _ _ HB3.out HPH.out))
        clear hj3 hT ht hy d0
        gi_wp2
        go_roundw
        case rel => exact ⟨pre ++ [(⟨IT.k, R1, IT.op, IT.args, IT.al⟩, .agg #[.int .i64 IT.k, .slice ra R1.length rc, .string ⟨IT.op.toArray⟩, .slice va IT.args.length vc, .bool IT.al])], k + IT.n, HNL.out.2.2, by rw [HNL.out.1]; push_cast; rfl, by rw [HDR.out, List.map_append, ← HPR.out, HCO.out, HX0.out, List.append_assoc]; rfl, HB'.out, HS'.out, HSP'.out, HPH'.out, HJ3.out⟩
        case measure => have := HNL.out; simp [intOf]; omega
      · have HJ3 := Lib.hid hjx
        clear hjx hy d0
        gi_wp2
        refine bodyPost_ret (results_none rfl _ _ _) rfl ?_
        exact ⟨⟨_, rfl⟩, .inr ⟨_, by rw [List.map_append, ← HPR.out, HCO.out, HX0.out]; exact ⟨itemsF (L.drop IT.n), by rw [List.append_assoc]; rfl⟩, HJ3.out⟩⟩
    · have HAT := Lib.hid (At_no a c l.length k wr (.inr (by omega)))
      have HE : Hid (pre.map (·.1) = itemsF l) := Lib.hid (by rw [← HPR.out, itemsF_nil (by rw [List.length_drop]; omega), List.append_nil])
      gi_wp2_with (refine ⟨trivial, ?_⟩; gi_at_call 23; refine (callsIn_wide.2 HAT.out).mono ?_; rintro e w2 ⟨rfl, hb2⟩; have HJ3 := Lib.hid (HJ.out _ _ _ (HJ.out _ _ _ HJW.out hb2) ((Below.refl _ _).alloc (Nat.le_refl _) (.cells itm0 29))); clear hb2)
      refine ⟨fun _ h => (by cases h), ?_⟩
      gi_wp2
      refine bodyPost_ret (results_none rfl _ _ _) rfl ?_
      exact ⟨⟨_, rfl⟩, .inl ⟨pre, HE.out, HJ3.out⟩⟩
end Go.Proofs.YtnbmbcjnncbaiaaGreatDoor
