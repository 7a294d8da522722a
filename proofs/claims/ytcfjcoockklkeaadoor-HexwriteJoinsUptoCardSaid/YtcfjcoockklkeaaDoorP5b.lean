/-
  PLAIN: the order of the lines of a HEX text does not matter. Conditions: none.
-/
import Derived.Test.YtcfjcoockklkeaaDoorP5a
namespace Go.Proofs.YtcfjcoockklkeaaDoor

/-- reading the lines L leads from st to st' without a fault -/
def Goes (st : ImgS × Bool) (L : List (List UInt8)) (st' : ImgS × Bool) : Prop := ∀ i r, runH i st (L ++ r) = runH (i + L.length) st' r
theorem Goes.nil (st : ImgS × Bool) : Goes st [] st := fun _ _ => rfl
theorem Goes.trans {a b c : ImgS × Bool} {L M : List (List UInt8)} (h : Goes a L b) (k : Goes b M c) : Goes a (L ++ M) c := fun i r => by
  rw [List.append_assoc, h, k, List.length_append, Nat.add_assoc]
theorem Goes.one {a b : ImgS × Bool} {s : List UInt8} (h : stepH a s = (0, b)) : Goes a [s] b := fun i r => runH_good i a b s r h
theorem Goes.ends {a b : ImgS × Bool} {L : List (List UInt8)} (h : Goes a L b) (hb : b.2 = true) (i : Nat) : runH i a L = ((0, 0), b) := by
  have := h i []
  rw [List.append_nil] at this
  rw [this, runH, hb]; rfl

theorem segC_has {d : Nat → Bool} {v : Nat → UInt8} {x : Nat} (hd : d x = true) : ∀ n a, a ≤ x → x < a + n → (⟨x, v x⟩ : CellV) ∈ segC d v a n
  | 0, a, h1, h2 => by omega
  | n + 1, a, h1, h2 => by
    rw [segC]
    by_cases e : x = a
    · subst e; rw [if_pos hd]; simp
    · exact List.mem_append_right _ (segC_has hd n (a + 1) (by omega) (by omega))
theorem cellsF_mem : ∀ (l : List UInt8) (a : Nat) (c : CellV), c ∈ cellsF a l ↔ ∃ i, l[i]? = some c.byte ∧ c.addr = a + i
  | [], a, c => by simp [cellsF]
  | b :: l, a, c => by
    rw [cellsF, List.mem_cons, cellsF_mem l (a + 1) c]
    constructor
    · rintro (rfl | ⟨i, h1, h2⟩)
      · exact ⟨0, rfl, rfl⟩
      · exact ⟨i + 1, h1, by omega⟩
    · rintro ⟨i, h1, h2⟩
      cases i with
      | zero =>
        left
        obtain ⟨x, y⟩ := c
        injection h1 with h1
        subst h1
        have h2 : x = a := h2
        subst h2; rfl
      | succ i => exact .inr ⟨i, h1, by omega⟩
/-- a run that says what d and v say -/
def Says (d : Nat → Bool) (v : Nat → UInt8) (r : Nat × List UInt8) : Prop := r.1 + r.2.length ≤ 65536 ∧ r.2 ≠ [] ∧ ∀ i b, r.2[i]? = some b → d (r.1 + i) = true ∧ b = v (r.1 + i)
def Dis (r q : Nat × List UInt8) : Prop := r.1 + r.2.length ≤ q.1 ∨ q.1 + q.2.length ≤ r.1
def inRun (r : Nat × List UInt8) (x : Nat) : Prop := r.1 ≤ x ∧ x < r.1 + r.2.length
structure InvP (v : Nat → UInt8) (E : List (Nat × List UInt8)) (S : ImgS) : Prop where
  dom : ∀ x, S.1 x = true ↔ ∃ r ∈ E, inRun r x
  val : ∀ x, S.1 x = true → S.2 x = v x
theorem InvP.start (v : Nat → UInt8) : InvP v [] (fun _ => false, fun _ => 0) := ⟨fun x => by simp, fun x h => by cases h⟩
theorem InvP.put {d : Nat → Bool} {v : Nat → UInt8} {E : List (Nat × List UInt8)} {S : ImgS} {r : Nat × List UInt8} (h : InvP v E S) (hr : Says d v r) (hd : ∀ q ∈ E, Dis q r) :
    putCode S.1 r.1 r.2.length = 0 ∧ InvP v (E ++ [r]) (imgPut S.1 S.2 r.1 r.2) := by
  obtain ⟨a, l⟩ := r
  obtain ⟨h1, h2, h3⟩ := hr
  have hp := List.length_pos_iff.2 h2
  have h1 : a + l.length ≤ 65536 := h1
  have hno : ∀ x, a ≤ x → x < a + l.length → S.1 x = false := fun x hx1 hx2 => by
    cases e : S.1 x with
    | false => rfl
    | true =>
      obtain ⟨q, hq, g1, g2⟩ := (h.dom x).1 e
      have hq2 := hd q hq
      unfold Dis at hq2
      have hq2 : q.1 + q.2.length ≤ a ∨ a + l.length ≤ q.1 := hq2
      omega
  have hc : putCode S.1 (a : Int) l.length = 0 := by
    obtain ⟨g1, g2, g3, g4⟩ := nextS_spec S.1 true a (by omega)
    unfold putCode
    rw [if_neg (by omega), if_neg (by omega), if_neg]
    intro hx
    have hx : nextS S.1 true a < a + l.length := hx
    have e := g4 (by omega)
    rw [hno _ g1 hx] at e
    cases e
  refine ⟨hc, ?_⟩
  have e : imgPut S.1 S.2 (a : Int) l = (span S.1 a l.length, over S.2 a l) := by
    unfold imgPut
    rw [hc, if_pos rfl]; rfl
  show InvP v _ (imgPut S.1 S.2 (a : Int) l)
  rw [e]
  refine ⟨fun x => ?_, fun x hx => ?_⟩
  · show (S.1 x || (decide (a ≤ x) && decide (x < a + l.length))) = true ↔ _
    rw [Bool.or_eq_true, Bool.and_eq_true, decide_eq_true_iff, decide_eq_true_iff, h.dom x]
    simp [inRun, or_comm, or_and_right, exists_or]
  · by_cases hin : a ≤ x ∧ x < a + l.length
    · have hlt : x - a < l.length := by omega
      show over S.2 a l x = _
      have h4 := (h3 (x - a) _ (List.getElem?_eq_getElem hlt)).2
      rw [show (a, l).1 + (x - a) = x from by show a + (x - a) = x; omega] at h4
      unfold over
      rw [if_pos hin.1, List.getD_eq_getElem?_getD, List.getElem?_eq_getElem hlt]
      exact h4
    · show over S.2 a l x = _
      have hx : (S.1 x || (decide (a ≤ x) && decide (x < a + l.length))) = true := hx
      have hf : (decide (a ≤ x) && decide (x < a + l.length)) = false := by
        cases h9 : (decide (a ≤ x) && decide (x < a + l.length)) with
        | false => rfl
        | true =>
          rw [Bool.and_eq_true, decide_eq_true_iff, decide_eq_true_iff] at h9
          exact absurd h9 hin
      rw [hf, Bool.or_false] at hx
      rw [over_out (by omega)]
      exact h.val x hx
theorem InvP.all {d : Nat → Bool} {v : Nat → UInt8} : ∀ (F E : List (Nat × List UInt8)) (S : ImgS), InvP v E S → (∀ r ∈ F, Says d v r) → (E ++ F).Pairwise Dis →
    (∀ k r, F[k]? = some r → putCode ((F.take k).foldl (fun s r => imgPut s.1 s.2 r.1 r.2) S).1 r.1 r.2.length = 0) ∧ InvP v (E ++ F) (F.foldl (fun s r => imgPut s.1 s.2 r.1 r.2) S)
  | [], E, S, h, _, _ => ⟨fun k r hk => by simp at hk, by rw [List.append_nil]; exact h⟩
  | r :: F, E, S, h, hs, hp => by
    have hd : ∀ q ∈ E, Dis q r := fun q hq => (List.pairwise_append.1 hp).2.2 q hq r (by simp)
    obtain ⟨h1, h2⟩ := h.put (hs r (by simp)) hd
    obtain ⟨h3, h4⟩ := InvP.all F (E ++ [r]) _ h2 (fun q hq => hs q (by simp [hq])) (by rw [List.append_assoc]; exact hp)
    rw [List.append_assoc] at h4
    refine ⟨fun k q hk => ?_, h4⟩
    cases k with
    | zero => injection hk with hk; subst hk; exact h1
    | succ k => exact h3 k q hk
theorem asc_pair : ∀ {D : List (Nat × List UInt8)} {lo : Nat}, Asc lo D → (∀ r ∈ D, lo ≤ r.1) ∧ D.Pairwise Dis
  | [], _, _ => ⟨fun r hr => (by cases hr), List.Pairwise.nil⟩
  | (a, l) :: D, lo, h => by
    obtain ⟨g1, g2, g3, g4⟩ := h
    obtain ⟨i1, i2⟩ := asc_pair g4
    refine ⟨fun r hr => ?_, List.Pairwise.cons (fun r hr => .inl (i1 r hr)) i2⟩
    rcases List.mem_cons.1 hr with rfl | hr
    · exact g1
    · have := i1 r hr; omega
theorem recs_says (d : Nat → Bool) (v : Nat → UInt8) {n : Nat} (hn : 0 < n) : ∀ r ∈ recs n (runsOf d v), Says d v r := by
  intro r hr
  obtain ⟨h1, h2, h3⟩ := recs_mem hn (runs_sep d v) r hr
  refine ⟨h3, h1, fun i b hb => ?_⟩
  have hm : (⟨r.1 + i, b⟩ : CellV) ∈ cellsR (recs n (runsOf d v)) := List.mem_flatMap.2 ⟨r, hr, (cellsF_mem _ _ _).2 ⟨i, hb, rfl⟩⟩
  rw [recs_cells hn, runs_cells] at hm
  exact (segC_mem _ _ hm).2.2
theorem recs_cover (d : Nat → Bool) (v : Nat → UInt8) {n : Nat} (hn : 0 < n) {x : Nat} (hx : x < 65536) (hd : d x = true) : ∃ r ∈ recs n (runsOf d v), inRun r x := by
  have hm : (⟨x, v x⟩ : CellV) ∈ cellsOf d v := segC_has hd _ _ (Nat.zero_le _) (by omega)
  rw [← runs_cells, ← recs_cells hn] at hm
  obtain ⟨r, hr, hc⟩ := List.mem_flatMap.1 hm
  obtain ⟨i, h1, h2⟩ := (cellsF_mem _ _ _).1 hc
  have := (List.getElem?_eq_some_iff.1 h1).1
  have h2 : x = r.1 + i := h2
  exact ⟨r, hr, by omega, by omega⟩
/-- the records of an image in whatever order: no fault, and the same cells -/
theorem put_perm (d : Nat → Bool) (v : Nat → UInt8) {n : Nat} (hn : 0 < n) {F : List (Nat × List UInt8)} (hF : F.Perm (recs n (runsOf d v))) :
    (∀ k r, F[k]? = some r → putCode ((F.take k).foldl (fun s r => imgPut s.1 s.2 r.1 r.2) (fun _ => false, fun _ => 0)).1 r.1 r.2.length = 0) ∧ cellsOf (putAll F).1 (putAll F).2 = cellsOf d v := by
  have hsym : ∀ {r q : Nat × List UInt8}, Dis r q → Dis q r := fun h => h.symm
  obtain ⟨h1, h2⟩ := InvP.all F [] _ (InvP.start v) (fun r hr => recs_says d v hn r (hF.mem_iff.1 hr)) (by
    rw [List.nil_append]
    exact (hF.pairwise_iff hsym).2 (asc_pair (recs_asc hn (runs_sep d v))).2)
  refine ⟨h1, ?_⟩
  rw [List.nil_append] at h2
  unfold putAll cellsOf
  refine segC_congr _ _ (fun x _ hx => ?_)
  have hx : x < 65536 := by omega
  have e1 := h2.dom x
  refine ⟨?_, h2.val x⟩
  cases hd : d x with
  | true =>
    obtain ⟨r, hr, hin⟩ := recs_cover d v hn hx hd
    exact e1.2 ⟨r, hF.mem_iff.2 hr, hin⟩
  | false =>
    cases e : (F.foldl (fun s r => imgPut s.1 s.2 r.1 r.2) ((fun _ => false), fun _ => 0) : ImgS).1 x with
    | false => rfl
    | true =>
      obtain ⟨r, hr, g1, g2⟩ := e1.1 e
      have hs := recs_says d v hn r (hF.mem_iff.1 hr)
      have hlt : x - r.1 < r.2.length := by omega
      have := (hs.2.2 _ _ (List.getElem?_eq_getElem hlt)).1
      rw [show r.1 + (x - r.1) = x by omega, hd] at this
      cases this

def lowU (c : UInt8) : UInt8 := if 65 ≤ c.toNat ∧ c.toNat ≤ 90 then c + 32 else c
theorem hexV_low (c : UInt8) : hexV (lowU c) = hexV c := by
  have hc := c.toNat_lt
  unfold lowU
  split
  · rename_i h
    have e : (c + 32).toNat = c.toNat + 32 := by
      rw [UInt8.toNat_add]
      show (c.toNat + 32) % 256 = _
      omega
    unfold hexV
    rw [e, if_neg (by omega), if_neg (show ¬ (48 ≤ c.toNat ∧ c.toNat ≤ 57) by omega), if_neg (show ¬ (97 ≤ c.toNat ∧ c.toNat ≤ 102) by omega)]
    by_cases h2 : c.toNat ≤ 70
    · rw [if_pos (by omega), if_pos (by omega)]; omega
    · rw [if_neg (by omega), if_neg (by omega), if_neg (by omega)]
  · rfl
theorem bytesH_low : ∀ s : List UInt8, bytesH (s.map lowU) = bytesH s
  | [] => rfl
  | [_] => rfl
  | a :: b :: r => by
    show (if 15 < hexV (lowU a) ∨ 15 < hexV (lowU b) then none else (bytesH (r.map lowU)).map (UInt8.ofNat (16 * hexV (lowU a) + hexV (lowU b)) :: ·)) = _
    rw [hexV_low, hexV_low, bytesH_low r]; rfl
theorem parseH_low (r : List UInt8) : parseH ((58 :: r).map lowU) = parseH (58 :: r) := by
  show parseH (58 :: r.map lowU) = _
  rw [parseH_colon, parseH_colon, bytesH_low]
/-- a line of a record as it may be written: small letters, a byte 13, a blank line behind -/
def mess (q : Bool) (x : List UInt8) : List (List UInt8) := if q then [x.map lowU ++ [13], [32, 9]] else [x]
theorem trim_app (s : List UInt8) : trimCR (s ++ [13]) = s := by
  unfold trimCR
  rw [if_pos (by simp), List.dropLast_concat]
theorem step_low {st : ImgS × Bool} {r : List UInt8} (h : trimCR (58 :: r) = 58 :: r) : stepH st ((58 :: r).map lowU ++ [13]) = stepH st (58 :: r) := by
  unfold stepH
  rw [trim_app, h, parseH_low]; rfl
theorem goes_mess {st st' : ImgS × Bool} {r : List UInt8} (q : Bool) (ht : trimCR (58 :: r) = 58 :: r) (h : stepH st (58 :: r) = (0, st')) : Goes st (mess q (58 :: r)) st' := by
  cases q with
  | false => exact Goes.one h
  | true => exact (Goes.one ((step_low ht).trans h)).trans (M := [[32, 9]]) (Goes.one (step_blank rfl))
theorem goes_recs : ∀ (F : List (Bool × (Nat × List UInt8))) (s : ImgS), (∀ x ∈ F, x.2.2.length ≤ 255 ∧ x.2.1 < 65536) →
    (∀ k r, (F.map Prod.snd)[k]? = some r → putCode (((F.map Prod.snd).take k).foldl (fun s r => imgPut s.1 s.2 r.1 r.2) s).1 r.1 r.2.length = 0) →
    Goes (s, false) (F.flatMap fun x => mess x.1 (recLine 0 x.2.1 x.2.2)) ((F.map Prod.snd).foldl (fun s r => imgPut s.1 s.2 r.1 r.2) s, false)
  | [], s, _, _ => Goes.nil _
  | (q, a, l) :: F, s, h1, h2 => by
    have g1 := h1 (q, a, l) (by simp)
    have g2 : putCode s.1 a l.length = 0 := h2 0 (a, l) rfl
    rw [List.flatMap_cons]
    refine Goes.trans (b := (imgPut s.1 s.2 a l, false)) ?_ (goes_recs F _ (fun x hx => h1 x (by simp [hx])) (fun k r hk => h2 (k + 1) r hk))
    exact goes_mess q (recLine_trim 0 a l) ((step_rec rfl g1.2 g1.1).trans (by rw [show putCode (s, false).1.1 a l.length = 0 from g2]))
/-- the lines in whatever order, as they may be written, then the End and a blank line -/
theorem read_messed (d : Nat → Bool) (v : Nat → UInt8) {n : Nat} (hn : 0 < n) (hn2 : n ≤ 255) (F : List (Bool × (Nat × List UInt8))) (hF : (F.map Prod.snd).Perm (recs n (runsOf d v))) (q1 q2 : Bool) (i : Nat) :
    ∃ S : ImgS, runH i emptyS ((F.flatMap fun x => mess x.1 (recLine 0 x.2.1 x.2.2)) ++ mess q1 endLine ++ mess q2 []) = ((0, 0), (S, true)) ∧ cellsOf S.1 S.2 = cellsOf d v := by
  obtain ⟨h1, h2⟩ := put_perm d v hn hF
  have g1 := goes_recs F ((fun _ => false), fun _ => 0) (fun x hx => by
    have hx2 : x.2 ∈ recs n (runsOf d v) := hF.mem_iff.1 (List.mem_map.2 ⟨x, hx, rfl⟩)
    obtain ⟨x1, x2, x3⟩ := recs_mem hn (runs_sep d v) _ hx2
    have := List.length_pos_iff.2 x1
    exact ⟨by omega, by omega⟩) h1
  have g2 : Goes (putAll (F.map Prod.snd), false) (mess q1 endLine) (putAll (F.map Prod.snd), true) := goes_mess q1 (by show trimCR endLine = endLine; rw [← endLine_is]; exact recLine_trim _ _ _) (step_end rfl)
  have g3 : Goes (putAll (F.map Prod.snd), true) (mess q2 []) (putAll (F.map Prod.snd), true) := by
    cases q2 with
    | false => exact Goes.one (step_blank rfl)
    | true => exact (Goes.one (step_blank rfl)).trans (M := [[32, 9]]) (Goes.one (step_blank rfl))
  exact ⟨_, ((g1.trans g2).trans g3).ends rfl i, h2⟩
end Go.Proofs.YtcfjcoockklkeaaDoor
