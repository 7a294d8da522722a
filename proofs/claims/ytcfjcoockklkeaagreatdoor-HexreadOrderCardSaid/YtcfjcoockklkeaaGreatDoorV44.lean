/-
  breadboardlaw05.HexreadOrder. Conditions: the addresses fit their type; the library's table as its initialiser lays it.
-/
import Derived.Test.YtcfjcoockklkeaaGreatDoorV43
namespace Go.Proofs.YtcfjcoockklkeaaGreatDoor
open Go.RowKit Go.Sort

theorem recLine_asc (t a : Nat) (l : List UInt8) : ∀ c ∈ recLine t a l, c.toNat < 128 := by
  intro c hc
  rcases List.mem_cons.1 hc with h | h
  · subst h; decide
  · obtain ⟨b, _, hb⟩ := List.mem_flatMap.1 h
    have : ∀ (k n : Nat), ∀ c ∈ hexs n k, c.toNat < 128 := by
      intro k
      induction k with
      | zero => intro n c hc; cases hc
      | succ k ih =>
        intro n c hc
        rw [hexs] at hc
        rcases List.mem_append.1 hc with hc | hc
        · exact ih _ _ hc
        · simp only [List.mem_singleton] at hc
          subst hc
          have hd : ∀ j, j < 16 → (digs.getD j 0).toNat < 128 := by decide
          exact hd _ (Nat.mod_lt _ (by omega))
    exact this _ _ c hb
theorem turned_asc (S : ImgS) : ∀ x ∈ turned S, ∀ c ∈ x, c.toNat < 128 := by
  intro x hx
  unfold turned at hx
  rcases List.mem_append.1 hx with h | h
  · obtain ⟨r, _, rfl⟩ := List.mem_map.1 h
    exact recLine_asc _ _ _
  · simp only [List.mem_cons, List.mem_nil_iff, or_false] at h
    rcases h with rfl | rfl
    · rw [← endLine_is]; exact recLine_asc _ _ _
    · intro c hc; cases hc
theorem turned_short (S : ImgS) : ∀ x ∈ turned S, x.length ≤ 300000000 := by
  intro x hx
  have h1 := turned_tot S
  have h2 := textOf_len40 (runsOf S.1 S.2) (runs_sep _ _)
  have h3 : ∀ (L : List (List UInt8)), x ∈ L → x.length ≤ tot L := by
    intro L
    induction L with
    | nil => intro h; cases h
    | cons y L ih =>
      intro h
      rw [tot_cons]
      rcases List.mem_cons.1 h with rfl | h
      · omega
      · have := ih h; omega
  have := h3 _ hx
  omega
theorem messF_app (k : Nat) (B : List (List UInt8)) : ∀ (A : List (List UInt8)) (i : Nat), messF k i (A ++ B) = messF k i A ++ messF k (i + A.length) B
  | [], i => rfl
  | x :: A, i => by rw [List.cons_append, messF, messF, messF_app k B A (i + 1), List.length_cons, show i + 1 + A.length = i + (A.length + 1) by omega]; rfl
theorem messF_take (k : Nat) {L : List (List UInt8)} {j : Nat} (h : j < L.length) : messF k 0 (L.take (j + 1)) = messF k 0 (L.take j) ++ [chunkL (flagF k j) L[j]] := by
  rw [List.take_succ_eq_append_getElem h, messF_app, List.length_take, Nat.min_eq_left (Nat.le_of_lt h), Nat.zero_add]
  rfl
/-- the lines, as many as j of them written anew -/
structure OrdI (w2 : World) (lb : Nat) (L : List (List UInt8)) (k j : Nat) (cur : List ByteArray) (w : World) : Prop where
  blk : Blk w lb 9 (cur.map Value.string).toArray
  eq : cur.map (·.data.toList) = messF k 0 (L.take j) ++ L.drop j
  below : Below lb w2 w
theorem OrdI.len {w2 w : World} {lb k j : Nat} {L : List (List UInt8)} {cur : List ByteArray} (h : OrdI w2 lb L k j cur w) : cur.length = L.length := by
  have e := congrArg List.length h.eq
  rw [List.length_map, List.length_append, messF_len, List.length_take, List.length_drop] at e
  omega
theorem OrdI.at_ {w2 w : World} {lb k j : Nat} {L : List (List UInt8)} {cur : List ByteArray} (h : OrdI w2 lb L k j cur w) (hj : j < L.length) (hc : j < cur.length) : cur[j].data.toList = L[j] := by
  have e : (cur.map (·.data.toList))[j]? = (messF k 0 (L.take j) ++ L.drop j)[j]? := by rw [h.eq]
  rw [List.getElem?_map, List.getElem?_eq_getElem hc, List.getElem?_append_right (by rw [messF_len, List.length_take]; omega), messF_len, List.length_take, Nat.min_eq_left (Nat.le_of_lt hj), Nat.sub_self, List.getElem?_drop, Nat.add_zero, List.getElem?_eq_getElem hj] at e
  injection e
theorem OrdI.skip {w2 w : World} {lb k j : Nat} {L : List (List UInt8)} {cur : List ByteArray} (h : OrdI w2 lb L k j cur w) (hj : j < L.length) (hf : flagF k j = false) : OrdI w2 lb L k (j + 1) cur w :=
  ⟨h.blk, by rw [messF_take k hj, hf, h.eq, List.drop_eq_getElem_cons hj, List.append_assoc]; rfl, h.below⟩
theorem OrdI.put {w2 w w' : World} {lb k j : Nat} {L : List (List UInt8)} {cur : List ByteArray} {y : ByteArray} (h : OrdI w2 lb L k j cur w) (hb : Below w.heap.size w w') (hB : lb ≤ w.heap.size) (hj : j < L.length) (hf : flagF k j = true) (hy : y.data.toList = L[j].map lowU ++ tailL) :
    OrdI w2 lb L k (j + 1) (cur.set j y) (w'.setCell ⟨lb, j, none⟩ (.string y)) := by
  refine ⟨?_, ?_, (h.below.trans (hb.mono hB)).setCell (Nat.le_refl _) _⟩
  · have h1 := (h.blk.below hb h.blk.lt).set j (.string y)
    have e : (cur.map Value.string).toArray.setIfInBounds j (.string y) = ((cur.set j y).map Value.string).toArray := by simp [List.map_set]
    rw [e] at h1
    exact h1
  · rw [List.map_set, h.eq, messF_take k hj, hf, List.set_append_right _ _ (by rw [messF_len, List.length_take]; omega), messF_len, List.length_take, Nat.min_eq_left (Nat.le_of_lt hj), Nat.sub_self, List.drop_eq_getElem_cons hj, List.set_cons_zero, List.append_assoc, hy]
    rfl
theorem JoinO {w2 w : World} {lb k : Nat} {S : ImgS} {cur : List ByteArray} (h : OrdI w2 lb (turned S) k (turned S).length cur w) (hl : (turned S).length ≤ 1000000) :
    Calls Tryz.prog 18 #[.slice (some ⟨lb, 0, none⟩) cur.length (turned S).length, .string ⟨#[10]⟩] w fun e w' => e = .returned (.string ⟨(Lib.join (messF k 0 (turned S)) [10]).toArray⟩) ∧ Below w.heap.size w w' := by
  have hlen := h.len
  have he : cur.map (·.data.toList) = messF k 0 (turned S) := by
    have := h.eq
    rw [List.take_length, List.drop_length, List.append_nil] at this
    exact this
  have hc := Tryz.strings_Join lb 0 (turned S).length cur ⟨#[10]⟩ w (fun j x hx => by
    have hb : w.heap[lb]? = some (.cells (cur.map Value.string).toArray 9 (0, 0)) := h.blk
    rw [Nat.zero_add]
    unfold World.cell?
    rw [hb]
    show (cur.map Value.string).toArray[j]? = _
    rw [List.getElem?_toArray, List.getElem?_map, hx]; rfl) h.blk.lt (by omega) (by omega) (by
      rw [he]
      show (Lib.join _ [10]).length ≤ _
      have := order_size S k
      omega)
  rw [he] at hc
  exact hc
theorem imgV_of {w : World} {b n : Nat} {S T : ImgS} (h : ImgC w b T.1 T.2 n) (e : cellsOf T.1 T.2 = cellsOf S.1 S.2) : ImgV w (.pointer (some ⟨b, 0, none⟩)) (runsOf S.1 S.2) := .inr ⟨b, n, _, _, rfl, h, (same_runs.2 e).symm⟩
theorem ReadO (S : ImgS) (k : Nat) (w : World) (hT : Deb w) :
    Calls Tryz.prog 6 #[.string ⟨(Lib.join (messF k 0 (turned S)) [10]).toArray⟩] w fun e w' => ∃ (ib : Nat) (T : ImgS), e = .returned (.tuple #[.pointer (some ⟨ib, 0, none⟩), .agg #[.int .i64 0, .int .i64 0]]) ∧ ImgC w' ib T.1 T.2 (cellsOf T.1 T.2).length ∧ cellsOf T.1 T.2 = cellsOf S.1 S.2 ∧ Below w.heap.size w w' := by
  obtain ⟨T, h1, h2⟩ := order_read S k
  have hs := order_size S k
  have h := Read_good ⟨(Lib.join (messF k 0 (turned S)) [10]).toArray⟩ w (by show (Lib.join (messF k 0 (turned S)) [10]).toArray.size ≤ _; rw [List.size_toArray]; omega) hT
  have hd : (⟨(Lib.join (messF k 0 (turned S)) [10]).toArray⟩ : ByteArray).data.toList = Lib.join (messF k 0 (turned S)) [10] := by simp
  rw [hd, h1] at h
  exact (h rfl).mono fun e w' ⟨ib, g1, _, g3, g4⟩ => ⟨ib, T, g1, g3, h2, g4⟩
theorem SplitO (S : ImgS) (w : World) :
    Calls Tryz.prog 15 #[.string ⟨(textOf 16 (runsOf S.1 S.2)).toArray⟩, .string ⟨#[10]⟩] w fun e w' => ∃ LS : List ByteArray, LS.map (·.data.toList) = linesOf 16 (runsOf S.1 S.2) ++ [[]] ∧ LS.length = (turned S).length ∧ e = .returned (.slice (some ⟨w.heap.size, 0, none⟩) (turned S).length (turned S).length) ∧ w' = w.alloc (.cells (LS.map Value.string).toArray 9) :=
  (Split10 ⟨(textOf 16 (runsOf S.1 S.2)).toArray⟩ w (by show (textOf 16 (runsOf S.1 S.2)).toArray.size < _; rw [List.size_toArray]; have := textOf_len40 (runsOf S.1 S.2) (runs_sep _ _); omega)).mono fun e w' ⟨L, h1, h2, h3⟩ => by
    have hd : (⟨(textOf 16 (runsOf S.1 S.2)).toArray⟩ : ByteArray).data.toList = textOf 16 (runsOf S.1 S.2) := by simp
    rw [hd, splitNL_text] at h1
    have hl : L.length = (turned S).length := by
      have := congrArg List.length h1
      rw [List.length_map] at this
      rw [this, turned_len]
      unfold linesOf
      simp
    exact ⟨L, h1, hl, by rw [h2, hl], h3⟩
end Go.Proofs.YtcfjcoockklkeaaGreatDoor
