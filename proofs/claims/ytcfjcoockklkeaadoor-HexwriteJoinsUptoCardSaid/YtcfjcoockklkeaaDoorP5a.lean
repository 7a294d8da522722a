/-
  PLAIN: reading HEX texts line by line; reading inverts writing. Conditions: none.
-/
import Derived.Test.YtcfjcoockklkeaaDoorP4e
namespace Go.Proofs.YtcfjcoockklkeaaDoor

/-- the lines of a text -/
def splitNL : List UInt8 → List (List UInt8)
  | [] => [[]]
  | c :: r => if c = 10 then [] :: splitNL r else match splitNL r with | [] => [[c]] | x :: L => (c :: x) :: L
theorem splitNL_ne : ∀ s, splitNL s ≠ []
  | [] => by simp [splitNL]
  | c :: r => by
    unfold splitNL
    split
    · simp
    · split <;> simp
theorem splitNL_line : ∀ (x r : List UInt8), (∀ c ∈ x, c ≠ 10) → splitNL (x ++ 10 :: r) = x :: splitNL r
  | [], r, _ => by show splitNL (10 :: r) = _; rw [splitNL, if_pos rfl]
  | c :: x, r, h => by
    show splitNL (c :: (x ++ 10 :: r)) = _
    rw [splitNL, if_neg (h c (by simp)), splitNL_line x r (fun z hz => h z (by simp [hz]))]
theorem splitNL_last : ∀ (x : List UInt8), (∀ c ∈ x, c ≠ 10) → splitNL x = [x]
  | [], _ => rfl
  | c :: x, h => by rw [splitNL, if_neg (h c (by simp)), splitNL_last x (fun z hz => h z (by simp [hz]))]
theorem splitNL_join : ∀ (L : List (List UInt8)) (r : List UInt8), (∀ x ∈ L, ∀ c ∈ x, c ≠ 10) → splitNL (joinL L ++ r) = L ++ splitNL r
  | [], r, _ => rfl
  | x :: L, r, h => by
    rw [joinL_cons, List.append_assoc]
    show splitNL (x ++ 10 :: (joinL L ++ r)) = _
    rw [splitNL_line x _ (h x (by simp)), splitNL_join L r (fun z hz => h z (by simp [hz]))]; rfl
def isBl (c : UInt8) : Bool := c == 32 || c == 9
def blankL (s : List UInt8) : Bool := s.all isBl
def trimCR (s : List UInt8) : List UInt8 := if s.getLast? = some 13 then s.dropLast else s
abbrev ImgS := (Nat → Bool) × (Nat → UInt8)
/-- one line: the code, the image and whether the End has come -/
def recH (st : ImgS × Bool) (r : RecV) : Nat × (ImgS × Bool) :=
  if r.t = 0 then (putCode st.1.1 r.a r.l.length, (imgPut st.1.1 st.1.2 r.a r.l, st.2)) else if r.t = 1 then (if r.l = [] then (0, (st.1, true)) else (6, st)) else (7, st)
def stepH (st : ImgS × Bool) (s : List UInt8) : Nat × (ImgS × Bool) :=
  if blankL (trimCR s) then (0, st) else if st.2 then (9, st) else if (parseH (trimCR s)).1 ≠ 0 then ((parseH (trimCR s)).1, st) else recH st (parseH (trimCR s)).2
/-- all lines: the line and the code of the fault, and the image -/
def runH : Nat → ImgS × Bool → List (List UInt8) → (Nat × Nat) × (ImgS × Bool)
  | _, st, [] => (if st.2 then (0, 0) else (0, 8), st)
  | i, st, s :: r => if (stepH st s).1 = 0 then runH (i + 1) (stepH st s).2 r else ((i + 1, (stepH st s).1), st)
def emptyS : ImgS × Bool := ((fun _ => false, fun _ => 0), false)
def readH (text : List UInt8) : (Nat × Nat) × (ImgS × Bool) := runH 0 emptyS (splitNL text)
theorem runH_good (i : Nat) (st st' : ImgS × Bool) (s : List UInt8) (r : List (List UInt8)) (h : stepH st s = (0, st')) : runH i st (s :: r) = runH (i + 1) st' r := by
  rw [runH, h, if_pos rfl]
theorem recLine_trim (t a : Nat) (l : List UInt8) : trimCR (recLine t a l) = recLine t a l := by
  unfold trimCR
  rw [if_neg]
  intro e
  have hm := List.mem_of_getLast? e
  rcases List.mem_cons.1 hm with h | h
  · cases h
  · have := byteTxt_ge h
    simp at this
theorem recLine_full (t a : Nat) (l : List UInt8) : blankL (recLine t a l) = false := rfl
theorem step_rec {st : ImgS × Bool} {a : Nat} {l : List UInt8} (hs : st.2 = false) (ha : a < 65536) (hl : l.length ≤ 255) : stepH st (recLine 0 a l) = (putCode st.1.1 a l.length, (imgPut st.1.1 st.1.2 a l, false)) := by
  unfold stepH
  rw [recLine_trim, recLine_full, parse_line ha hl, hs]
  simp [recH, hs]
theorem parse_end : parseH endLine = (0, ⟨1, 0, []⟩) := by rw [← endLine_is]; exact parse_lineT (by omega) (by omega) (by simp)
theorem step_end {st : ImgS × Bool} (hs : st.2 = false) : stepH st endLine = (0, (st.1, true)) := by
  unfold stepH
  rw [show trimCR endLine = endLine by rw [← endLine_is]; exact recLine_trim _ _ _, show blankL endLine = false from rfl, parse_end, hs]
  simp [recH]
theorem step_blank {st : ImgS × Bool} {s : List UInt8} (h : blankL (trimCR s) = true) : stepH st s = (0, st) := by
  unfold stepH
  rw [if_pos h]
/-- lines of records that can be put -/
theorem runH_recs : ∀ (D : List (Nat × List UInt8)) (i : Nat) (s : ImgS) (r : List (List UInt8)), (∀ x ∈ D, x.2.length ≤ 255 ∧ x.1 < 65536) →
    (∀ k x, D[k]? = some x → putCode ((D.take k).foldl (fun s r => imgPut s.1 s.2 r.1 r.2) s).1 x.1 x.2.length = 0) →
    runH i (s, false) (D.map (fun r => recLine 0 r.1 r.2) ++ r) = runH (i + D.length) (D.foldl (fun s r => imgPut s.1 s.2 r.1 r.2) s, false) r
  | [], i, s, r, _, _ => rfl
  | (a, l) :: D, i, s, r, h1, h2 => by
    have g1 := h1 (a, l) (by simp)
    have g2 : putCode s.1 a l.length = 0 := h2 0 (a, l) rfl
    show runH i (s, false) (recLine 0 a l :: (D.map (fun r => recLine 0 r.1 r.2) ++ r)) = _
    rw [runH_good i (s, false) (imgPut s.1 s.2 a l, false) _ _ ((step_rec rfl g1.2 g1.1).trans (by rw [show putCode (s, false).1.1 a l.length = 0 from g2]))]
    rw [runH_recs D (i + 1) _ r (fun x hx => h1 x (by simp [hx])) (fun k x hk => h2 (k + 1) x hk), show i + 1 + D.length = i + ((a, l) :: D).length by simp; omega]; rfl
theorem runH_blanks : ∀ (L : List (List UInt8)) (i : Nat) (st : ImgS × Bool), st.2 = true → (∀ s ∈ L, blankL (trimCR s) = true) → runH i st L = ((0, 0), st)
  | [], i, st, hs, _ => by rw [runH, hs]; rfl
  | s :: L, i, st, hs, h => by
    rw [runH_good i st st s L (step_blank (h s (by simp))), runH_blanks L _ st hs (fun x hx => h x (by simp [hx]))]
/-- what reading a written text gives: no fault, and the same cells -/
theorem read_text (d : Nat → Bool) (v : Nat → UInt8) {n : Nat} (hn : 0 < n) (hn2 : n ≤ 255) (more : List UInt8) (hm : ∀ s ∈ splitNL more, blankL (trimCR s) = true) :
    readH (textOf n (runsOf d v) ++ more) = ((0, 0), (putAll (recs n (runsOf d v)), true)) := by
  obtain ⟨_, h2⟩ := putAll_recs d v hn
  unfold putAll at h2
  unfold readH textOf
  rw [splitNL_join _ _ (linesOf_no10 n _), linesOf, List.append_assoc]
  show runH 0 ((fun _ => false, fun _ => 0), false) _ = _
  rw [runH_recs (recs n (runsOf d v)) 0 _ _ (fun x hx => by
    obtain ⟨x1, x2, x3⟩ := recs_mem hn (runs_sep d v) x hx
    have := List.length_pos_iff.2 x1
    exact ⟨by omega, by omega⟩) h2]
  show runH _ (putAll _, false) (endLine :: splitNL more) = _
  rw [runH_good _ _ _ _ _ (step_end rfl), runH_blanks _ _ _ rfl hm]
/-- without the End -/
theorem read_open (d : Nat → Bool) (v : Nat → UInt8) {n : Nat} (hn : 0 < n) (hn2 : n ≤ 255) :
    readH (joinL ((recs n (runsOf d v)).map fun r => recLine 0 r.1 r.2)) = ((0, 8), (putAll (recs n (runsOf d v)), false)) := by
  obtain ⟨_, h2⟩ := putAll_recs d v hn
  unfold putAll at h2
  unfold readH
  have := splitNL_join ((recs n (runsOf d v)).map fun r => recLine 0 r.1 r.2) [] (fun x hx => linesOf_no10 n (runsOf d v) x (by unfold linesOf; exact List.mem_append_left _ hx))
  rw [List.append_nil] at this
  rw [this]
  show runH 0 ((fun _ => false, fun _ => 0), false) _ = _
  rw [runH_recs (recs n (runsOf d v)) 0 _ _ (fun x hx => by
    obtain ⟨x1, x2, x3⟩ := recs_mem hn (runs_sep d v) x hx
    have := List.length_pos_iff.2 x1
    exact ⟨by omega, by omega⟩) h2]
  show runH _ (putAll _, false) [[]] = _
  rw [runH_good _ _ _ _ _ (step_blank rfl)]; rfl
/-- a line behind the End that is not blank -/
theorem read_after (d : Nat → Bool) (v : Nat → UInt8) {n : Nat} (hn : 0 < n) (hn2 : n ≤ 255) (more : List UInt8) (s : List UInt8) (r : List (List UInt8)) (hm : splitNL more = s :: r) (hs : blankL (trimCR s) = false) :
    readH (textOf n (runsOf d v) ++ more) = (((linesOf n (runsOf d v)).length + 1, 9), (putAll (recs n (runsOf d v)), true)) := by
  obtain ⟨_, h2⟩ := putAll_recs d v hn
  unfold putAll at h2
  unfold readH textOf
  rw [splitNL_join _ _ (linesOf_no10 n _), linesOf, List.append_assoc]
  show runH 0 ((fun _ => false, fun _ => 0), false) _ = _
  rw [runH_recs (recs n (runsOf d v)) 0 _ _ (fun x hx => by
    obtain ⟨x1, x2, x3⟩ := recs_mem hn (runs_sep d v) x hx
    have := List.length_pos_iff.2 x1
    exact ⟨by omega, by omega⟩) h2]
  show runH _ (putAll _, false) (endLine :: splitNL more) = _
  rw [runH_good _ _ _ _ _ (step_end rfl), hm, runH]
  have e : stepH (putAll (recs n (runsOf d v)), true) s = (9, (putAll (recs n (runsOf d v)), true)) := by
    unfold stepH
    rw [if_neg (by rw [hs]; simp), if_pos rfl]
  rw [e, if_neg (by simp)]
  simp
end Go.Proofs.YtcfjcoockklkeaaDoor
