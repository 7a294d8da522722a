/-
  breadboardlaw04.HexwriteRecords. Conditions: the addresses fit their type; the library's table as its initialiser lays it.
-/
import Derived.Test.YtcfjcoockklkeaaGreatDoorV11
namespace Go.Proofs.YtcfjcoockklkeaaGreatDoor
open Go.RowKit

def nsum (D : List (Nat × List UInt8)) : Nat := (cellsR D).length
theorem nsum_snoc (D : List (Nat × List UInt8)) (r : Nat × List UInt8) : nsum (D ++ [r]) = nsum D + r.2.length := by
  unfold nsum cellsR
  rw [List.flatMap_append, List.length_append]
  simp [cellsF_len]
theorem nsum_pre (D E : List (Nat × List UInt8)) : nsum D ≤ nsum (D ++ E) := by
  unfold nsum cellsR
  rw [List.flatMap_append, List.length_append]
  omega
/-- the image, the one that is built again, and the lines -/
structure RecI (w0 w : World) (b b2 : Nat) (S : ImgS) (D : List (Nat × List UInt8)) (lv : Value) (LS : List ByteArray) (k : Nat) : Prop where
  img : ∃ n, ImgC w b S.1 S.2 n
  again : ImgC w b2 (putAll (D.take k)).1 (putAll (D.take k)).2 (nsum (D.take k))
  lines : SlR strR w (fun g => g < b2) lv LS
  ne : b < b2
  at_ : w0.heap.size ≤ b
  below : Below w0.heap.size w0 w
theorem RecI.later {w0 w w' : World} {b b2 k : Nat} {S : ImgS} {D : List (Nat × List UInt8)} {lv : Value} {LS : List ByteArray} (h : RecI w0 w b b2 S D lv LS k) (hb : Below w.heap.size w w') : RecI w0 w' b b2 S D lv LS k := by
  obtain ⟨n, hi⟩ := h.img
  exact ⟨⟨n, hi.below hb hi.lt⟩, h.again.below hb h.again.lt, h.lines.below hb, h.ne, h.at_, h.below.trans (hb.mono h.below.size)⟩
theorem RecI.put {w0 w w' : World} {b b2 k : Nat} {S : ImgS} {D : List (Nat × List UInt8)} {lv : Value} {LS : List ByteArray} (h : RecI w0 w b b2 S D lv LS k) {r : Nat × List UInt8} (hr : D[k]? = some r) (hc : putCode (putAll (D.take k)).1 r.1 r.2.length = 0)
    (hp : Put w' b2 (nsum (D.take k)) (putAll (D.take k)).1 (putAll (D.take k)).2 r.1 r.2) (hg : w.grownBy w' (some b2)) : RecI w0 w' b b2 S D lv LS (k + 1) := by
  obtain ⟨n, hi⟩ := h.img
  have hk := (List.getElem?_eq_some_iff.1 hr).1
  have e : D[k] = r := by rw [List.getElem?_eq_getElem hk] at hr; injection hr
  refine ⟨⟨n, ?_⟩, ?_, h.lines.old.keep (Keep.grown hg fun g hq => ⟨hq.2, fun e => by injection e with e; have := hq.1; omega⟩) |>.mono fun _ hq => hq.1, h.ne, h.at_, h.below.grown hg h.below.size (fun g e => by injection e with e; have := h.at_; have := h.ne; omega)⟩
  · have hb := hg.block b hi.lt (fun e => by injection e with e; have := h.ne; omega)
    refine ⟨fun i hx => ?_, ?_, fun a ha => ?_, fun o => ?_⟩
    · have := hi.words i hx; unfold World.cell? at this ⊢; rw [hb]; exact this
    · have := hi.count; unfold World.cell? at this ⊢; rw [hb]; exact this
    · have := hi.bytes a ha; unfold World.cell? at this ⊢; rw [hb]; exact this
    · have := hi.free o; unfold World.frozen? at this ⊢; rw [hb]; exact this
  · rw [List.take_succ_eq_append_getElem hk, e, putAll_snoc, nsum_snoc]
    unfold Put at hp
    unfold imgPut
    rw [if_pos hc] at hp ⊢
    exact hp
theorem lines_at {R : List (Nat × List UInt8)} {LS : List ByteArray} (h : LS.map (·.data.toList) = linesOf 16 R ++ [[]]) : LS.length = (recs 16 R).length + 2 ∧ LS[(recs 16 R).length]? = some ⟨#[58, 48, 48, 48, 48, 48, 48, 48, 49, 70, 70]⟩ ∧ LS[(recs 16 R).length + 1]? = some ⟨#[]⟩ ∧
    ∀ (k : Nat) (r : Nat × List UInt8), (recs 16 R)[k]? = some r → LS[k]? = some ⟨(recLine 0 r.1 r.2).toArray⟩ := by
  have hl := congrArg List.length h
  have hat : ∀ (k : Nat) (x : List UInt8), (linesOf 16 R ++ [[]])[k]? = some x → LS[k]? = some ⟨x.toArray⟩ := fun k x hx => by
    rw [← h, List.getElem?_map] at hx
    cases hs : LS[k]? with
    | none => rw [hs] at hx; cases hx
    | some s =>
      rw [hs] at hx
      injection hx with hx
      rw [ba_of hx]
  have h0 : (linesOf 16 R).length = (recs 16 R).length + 1 := by simp [linesOf]
  refine ⟨by rw [List.length_map, List.length_append, h0] at hl; simpa using hl, ?_, ?_, fun k r hk => hat k _ ?_⟩
  · have := hat (recs 16 R).length endLine (by
      rw [List.getElem?_append_left (by omega)]
      unfold linesOf
      rw [List.getElem?_append_right (by simp)]
      simp)
    exact this
  · exact hat _ [] (by rw [List.getElem?_append_right (by omega), h0]; simp)
  · have hkl := (List.getElem?_eq_some_iff.1 hk).1
    rw [List.getElem?_append_left (by omega)]
    unfold linesOf
    rw [List.getElem?_append_left (by simpa using hkl), List.getElem?_map, hk]; rfl
theorem cut_strs (b o len cap h : Nat) (h2 : h ≤ cap) (W : World) : (Instr.sliceAt 42 (.slice (some ⟨b, o, none⟩) len cap) none (some (.int .i64 (h : Int))) none).run Tryz.prog W = .ok (.slice (some ⟨b, o, none⟩) h cap) W := by
  rw [run_sliceAt_slice _ _ _ _ _ _ (by kernel_rfl), run_slice_h W _ (some ⟨b, o, none⟩) len cap (by kernel_rfl) .i64 (h : Int) (by omega) (by omega)]
  go_simp
theorem splitNL_text (n : Nat) (R : List (Nat × List UInt8)) : splitNL (textOf n R) = linesOf n R ++ [[]] := by
  have := splitNL_join (linesOf n R) [] (linesOf_no10 n R)
  rw [List.append_nil] at this
  exact this
theorem str_cell {w : World} {p : Blocks} {b o n c : Nat} {LS : List ByteArray} (h : SlR strR w p (.slice (some ⟨b, o, none⟩) n c) LS) {i : Nat} {x : ByteArray} (hx : LS[i]? = some x) : w.cell? ⟨b, o + i, none⟩ = some (.string x) ∧ p b := by
  obtain ⟨a, c', hv, _, _, g⟩ := h.str
  obtain ⟨b1, o1, ha, hp, hc⟩ := g i x hx
  injection hv with hv _ _
  rw [ha] at hv
  injection hv with hv
  injection hv with h1 h2
  subst h1 h2
  exact ⟨hc, hp⟩
theorem SplitText (R : List (Nat × List UInt8)) (hS : Sep 0 R) (w : World) : Calls Tryz.prog 15 #[.string ⟨(textOf 16 R).toArray⟩, .string ⟨#[10]⟩] w fun e w' => ∃ (LS : List ByteArray) (g : Nat), e = .returned (.slice (some ⟨g, 0, none⟩) ((recs 16 R).length + 2) ((recs 16 R).length + 2)) ∧
    SlR strR w' (fun k => k < w'.heap.size) (.slice (some ⟨g, 0, none⟩) ((recs 16 R).length + 2) ((recs 16 R).length + 2)) LS ∧ Below w.heap.size w w' ∧ LS[(recs 16 R).length]? = some ⟨#[58, 48, 48, 48, 48, 48, 48, 48, 49, 70, 70]⟩ ∧ LS[(recs 16 R).length + 1]? = some ⟨#[]⟩ ∧
    ∀ (k : Nat) (r : Nat × List UInt8), (recs 16 R)[k]? = some r → LS[k]? = some ⟨(recLine 0 r.1 r.2).toArray⟩ := by
  have hlt := textOf_len 16 R (by omega) (by omega) hS
  have hrl : (recs 16 R).length ≤ 65536 := by
    rcases recs_count (n := 16) (by omega) hS with h | h
    · rw [h]; simp [recs]
    · omega
  refine (Split10 ⟨(textOf 16 R).toArray⟩ w (by show (textOf 16 R).toArray.size < _; rw [List.size_toArray]; omega)).mono fun e w' ⟨LS, h1, h2, h3⟩ => ?_
  have h1 : LS.map (·.data.toList) = splitNL (textOf 16 R) := h1
  obtain ⟨hl1, hl2, hl3, hl4⟩ := lines_at (h1.trans (splitNL_text 16 R))
  rw [hl1] at h2
  have hs : SlR strR w' (fun k => k < w'.heap.size) (.slice (some ⟨w.heap.size, 0, none⟩) LS.length LS.length) LS := by
    rw [h3]
    exact slR_strs w _ _ LS _ rfl (by show _ < (World.alloc _ _).heap.size; rw [World.size_alloc]; exact Nat.lt_succ_self _) (by unfold maxLen; omega)
  rw [hl1] at hs
  exact ⟨LS, _, h2, hs, by rw [h3]; exact (Below.refl _ _).alloc (Nat.le_refl _) _, hl2, hl3, hl4⟩
end Go.Proofs.YtcfjcoockklkeaaGreatDoor
