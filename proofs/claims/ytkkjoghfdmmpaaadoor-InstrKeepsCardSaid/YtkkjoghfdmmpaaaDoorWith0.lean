/-
  PLAIN: other numbers in an instruction. And: the rest of a slice.
-/
import Derived.Test.YtkkjoghfdmmpaaaDoorAlive7
namespace Go.Proofs.YtkkjoghfdmmpaaaDoor
open Go.RowKit

/-- 's[k:]' of a slice that reads as a list. -/
theorem SlR.cut {α : Type} {R : Rep α} {P : Program} {w : World} {p : Blocks} {a : Option Addr} {n c : Nat} {l : List α} {t : TypeId} (h : SlR R w p (.slice a n c) l) (k : Nat) (hk : k ≤ n) (ht : P.underlying t = some (.slice (P.elem t)))
    (hs : ∀ wz, (sizeOf (P.elem t)).run P wz = .ok R.size wz) :
    ∃ a', (∀ wz, (Instr.slice t (.slice a n c) (some (.int .i64 k)) none none).run P wz = .ok (.slice a' (n - k) (c - k)) wz) ∧ SlR R w p (.slice a' (n - k) (c - k)) (l.drop k) := by
  obtain ⟨a0, c0, e0, h1, h2, h3⟩ := h
  injection e0 with e1 e2 e3
  subst e1 e2 e3
  refine ⟨if c = k then a else a.map (·.add (k * R.size)), fun wz => ?_, ?_⟩
  · rw [run_slice_l wz t a l.length c ht .i64 k (by omega) (by omega), hs]
    simp [Result.andThen, sliced]
  · refine ⟨_, c - k, by rw [List.length_drop], by rw [List.length_drop]; omega, by omega, fun i x hx => ?_⟩
    rw [List.getElem?_drop] at hx
    obtain ⟨b, o, cs, rfl, hp, hb, hc, hr⟩ := h3 _ x hx
    have hlt := (List.getElem?_eq_some_iff.1 hx).1
    rw [if_neg (by omega)]
    refine ⟨b, o + k * R.size, cs, ?_, hp, hb, ?_, hr⟩
    · simp [Addr.add]
    · rwa [show o + k * R.size + i * R.size = o + (k + i) * R.size by rw [Nat.add_mul]; omega]

theorem SlR.tail {α : Type} {R : Rep α} {w : World} {p : Blocks} {b o n c s : Nat} {x : α} {l : List α} (h : SlR R w p (.slice (some ⟨b, o, none⟩) n c) (x :: l)) (hs : R.size = s) :
    SlR R w p (.slice (if c = 1 then some ⟨b, o, none⟩ else some ⟨b, o + s, none⟩) l.length (c - 1)) l := by
  subst hs
  obtain ⟨a0, c0, e0, h1, h2, h3⟩ := h
  injection e0 with e1 e2 e3
  subst e1 e2 e3
  rw [List.length_cons] at h1
  refine ⟨_, c - 1, rfl, by omega, by omega, fun i y hy => ?_⟩
  obtain ⟨b', o', cs, e, hp, hb, hc, hr⟩ := h3 (i + 1) y (by simpa using hy)
  injection e with e
  injection e with e1 e2
  subst e1 e2
  have hlt := (List.getElem?_eq_some_iff.1 hy).1
  rw [if_neg (by omega)]
  refine ⟨b, o + R.size, cs, rfl, hp, hb, ?_, hr⟩
  rwa [show o + R.size + i * R.size = o + (i + 1) * R.size by rw [Nat.add_mul]; omega]

def fill : List Opd → List Int → List Opd
  | [], _ => []
  | o :: os, l => if hasNum o then (match l with | n :: r => { o with n := n } :: fill os r | [] => o :: fill os []) else o :: fill os l
def put1 (o : Opd) (l : List Int) : Opd := if hasNum o then (match l with | n :: _ => { o with n := n } | [] => o) else o
theorem fill_len : ∀ (os : List Opd) (l : List Int), (fill os l).length = os.length
  | [], _ => rfl
  | o :: os, l => by
    unfold fill
    split
    · cases l with
      | nil => simp [fill_len os []]
      | cons n r => simp [fill_len os r]
    · simp [fill_len os l]
theorem numsOf_cons (o : Opd) (os : List Opd) : numsOf (o :: os) = if hasNum o then o.n :: numsOf os else numsOf os := by
  unfold numsOf; cases h : hasNum o <;> simp [h]
theorem fill_snoc (o : Opd) : ∀ (os : List Opd) (l : List Int), fill (os ++ [o]) l = fill os l ++ [put1 o (l.drop (numsOf os).length)]
  | [], l => by
    simp only [List.nil_append, fill, put1, numsOf, List.filter_nil, List.map_nil, List.length_nil, List.drop_zero]
    cases hasNum o <;> cases l <;> simp
  | x :: os, l => by
    rw [List.cons_append, numsOf_cons]
    cases h : hasNum x
    · simp only [fill, h]; simp [fill_snoc o os l]
    · cases l with
      | nil => simp only [fill, h]; simp [fill_snoc o os []]
      | cons n r => simp only [fill, h]; simp [fill_snoc o os r]
def fillTo (os : List Opd) (l : List Int) (k : Nat) : List Opd := fill (os.take k) l ++ os.drop k
theorem fillTo_zero (os : List Opd) (l : List Int) : fillTo os l 0 = os := by simp [fillTo, fill]
theorem fillTo_all (os : List Opd) (l : List Int) : fillTo os l os.length = fill os l := by simp [fillTo]
theorem fillTo_len (os : List Opd) (l : List Int) (k : Nat) : (fillTo os l k).length = os.length := by simp [fillTo, fill_len]; omega
theorem fillTo_at (os : List Opd) (l : List Int) (k : Nat) (h : k < os.length) : (fillTo os l k)[k]? = some os[k] := by
  unfold fillTo
  rw [List.getElem?_append_right (by rw [fill_len, List.length_take]; omega), fill_len, List.length_take, Nat.min_eq_left (by omega), Nat.sub_self, List.getElem?_drop]
  simp [h]
theorem fillTo_succ (os : List Opd) (l : List Int) (k : Nat) (h : k < os.length) : fillTo os l (k + 1) = (fillTo os l k).set k (put1 os[k] (l.drop (numsOf (os.take k)).length)) := by
  unfold fillTo
  have hd : os.drop k = os[k] :: os.drop (k + 1) := List.drop_eq_getElem_cons h
  rw [List.take_succ_eq_append_getElem h, fill_snoc, List.set_append_right _ _ (by rw [fill_len, List.length_take]; omega), fill_len, List.length_take, Nat.min_eq_left (by omega), Nat.sub_self, hd, List.append_assoc]
  rfl
theorem fillTo_no {os : List Opd} {l : List Int} {k : Nat} (h : k < os.length) (hn : hasNum os[k] = false) : fillTo os l (k + 1) = fillTo os l k := by
  rw [fillTo_succ os l k h]
  have e : put1 os[k] (l.drop (numsOf (os.take k)).length) = os[k] := by simp [put1, hn]
  rw [e]
  apply List.ext_getElem?
  intro i
  by_cases e : k = i
  · subst e
    rw [List.getElem?_set_self (by rw [fillTo_len]; exact h), fillTo_at os l k h]
  · rw [List.getElem?_set_ne e]
theorem fillTo_yes {os : List Opd} {l r : List Int} {k : Nat} {y : Int} (h : k < os.length) (hn : hasNum os[k] = true) (hr : l.drop (numsOf (os.take k)).length = y :: r) : fillTo os l (k + 1) = (fillTo os l k).set k { os[k] with n := y } := by
  rw [fillTo_succ os l k h, hr]; simp [put1, hn]
theorem nums_step_yes {os : List Opd} {k : Nat} (h : k < os.length) (hn : hasNum os[k] = true) : (numsOf (os.take (k + 1))).length = (numsOf (os.take k)).length + 1 := by
  rw [numsOf_yes (List.take_append_getElem h) hn]; simp
theorem nums_step_no {os : List Opd} {k : Nat} (h : k < os.length) (hn : hasNum os[k] = false) : (numsOf (os.take (k + 1))).length = (numsOf (os.take k)).length := by
  rw [numsOf_no (List.take_append_getElem h) hn]
theorem nums_take_le (os : List Opd) (k : Nat) : (numsOf (os.take k)).length ≤ (numsOf os).length := by
  have h : numsOf os = numsOf (os.take k) ++ numsOf (os.drop k) := by
    unfold numsOf
    rw [← List.map_append, ← List.filter_append, List.take_append_drop]
  rw [h, List.length_append]; omega
theorem nums_lt {os : List Opd} {k : Nat} (h : k < os.length) (hn : hasNum os[k] = true) : (numsOf (os.take k)).length < (numsOf os).length := by
  have := nums_take_le os (k + 1)
  rw [nums_step_yes h hn] at this
  omega

def withOk (x : Ins) (l : List Int) : Bool := (numsOf x.args).length == l.length && check07 ⟨x.op, fill x.args l⟩ == 0
def insZ : Ins := ⟨⟨#[]⟩, []⟩
def withI (x : Ins) (l : List Int) : Ins := if withOk x l then ⟨x.op, fill x.args l⟩ else insZ
theorem withOk_len {x : Ins} {l : List Int} (h : (numsOf x.args).length ≠ l.length) : withOk x l = false := by simp [withOk, h]
theorem withOk_check {x : Ins} {l : List Int} (h : (numsOf x.args).length = l.length) : withOk x l = (check07 ⟨x.op, fill x.args l⟩ == 0) := by simp [withOk, h]
end Go.Proofs.YtkkjoghfdmmpaaaDoor
