/-
  append of one element onto a row of the call's own; bytes and strings as rows. Conditions: the new length's bytes.
-/
import Derived.Test.YtkkjoghfdmmpaaaDoorAppend
import Derived.Test.YtkkjoghfdmmpaaaDoorMake
namespace Go.Proofs.YtkkjoghfdmmpaaaDoor
open Go.RowKit

theorem grown_step {w0 w1 w2 : World} {row : Option Nat} (h1 : w0.grownBy w1 row) (h2 : w1.grownBy w2 row) : w0.grownBy w2 row :=
  ⟨h2.1.trans h1.1, h2.2.trans h1.2, h2.3.trans h1.3, Nat.le_trans h1.4 h2.4, fun k hk hne => (h2.5 k (Nat.lt_of_lt_of_le hk h1.4) hne).trans (h1.5 k hk hne)⟩

theorem below_dN {B : Nat} {a w : World} (h : Below B a w) (n : Nat) : Below B a (w.drewN n) := ⟨h.os, h.tape, h.output, h.size, h.block⟩

section
variable {P : Program} {α : Type} {n : Nat} {enc : α → List Value} {h0 : ∀ x, (enc x).length = n} {h1 : ∀ x, ∀ u ∈ enc x, u.oneCell' = true}
/-- What one more element leaves. -/
def Pushed (R : Rep α) (w : World) (B : Nat) (e : TypeId) (row : Option Nat) (zs : List α) (v' : Value) (w' : World) : Prop := Own R w' B e NoB v' zs ∧ w.grownBy w' row
theorem Own.pushed {w : World} {B bytes : Nat} {t ty e : TypeId} {v : Value} {xs : List α} {x : α} (hE : ElT P t e n bytes) (h : Own (Rep.flat n enc h0 h1) w B e NoB v xs) (cs : Array Value) (hcs : cs = (enc x).toArray)
    (hbytes : (xs.length + 1) * bytes ≤ 140737488355328) (hlen : xs.length + 1 ≤ 9223372036854775807) (hB : B ≤ w.heap.size) :
    ∃ a c w', (Builtin.append_ #[t, t] ty #[v, .slice (some ⟨w.heap.size, 0, none⟩) 1 1]).run P (w.alloc (.cells cs e)) = .ok (.slice a (xs.length + 1) c) w' ∧ Pushed (Rep.flat n enc h0 h1) w B e v.ownBlock (xs ++ [x]) (.slice a (xs.length + 1) c) w' := by
  subst hcs
  have hlt := h.lt
  obtain ⟨v', w', hrun, ho, hg, _⟩ := run_append_R (P := P) (R := Rep.flat n enc h0 h1) (w := w.alloc (.cells (enc x).toArray e)) B t ty e bytes hE (p := NoB) (q := fun k => NoB k ∨ k = w.heap.size) (v := v)
    (vx := .slice (some ⟨w.heap.size, 0, none⟩) 1 1) (xs := xs) (ys := [x]) (h.keep (Keep.of_below ((Below.refl _ _).alloc (Nat.le_refl _) _) (fun k hk => by rcases hk with hk | hk; exact hk.elim; exact (hlt k hk).2))) (slR_one (R := Rep.flat n enc h0 h1) (p := NoB) rfl _) (fun _ hk => hk.elim)
    (fun k hk e => by
      rcases hk with hk | rfl
      · exact hk.elim
      · exact absurd (hlt _ e.symm).2 (Nat.lt_irrefl _)) (by simpa using hbytes) (by simpa using hlen) (by simp; omega)
  obtain ⟨a, c, rfl⟩ := ho.form
  have ho' := ho.flat NoB
  rw [List.length_append, List.length_singleton] at hrun ho'
  exact ⟨a, c, w', hrun, ho', grown_step (World.grownBy_alloc w _ _) hg⟩
theorem wp_push {o : Oper} {a : Act} {w : World} {K : Act → World → Prop} {Q : Exit → Act → World → Prop} (s x : Operand) (t : TypeId)
    (ho : o.op = .call { callee := .builtin .append, args := #[s, x], argTypes := #[t, t] })
    (B : Nat) (e : TypeId) (bytes : Nat) (hE : ElT P t e n bytes) (v : Value) (xs : List α) (y : α) (cs : Array Value) (hs : a.eval s = v) (hxe : a.eval x = .slice (some ⟨w.heap.size, 0, none⟩) 1 1) (hown : Own (Rep.flat n enc h0 h1) w B e NoB v xs)
    (hcs : cs = (enc y).toArray) (hbytes : (xs.length + 1) * bytes ≤ 140737488355328) (hlen : xs.length + 1 ≤ 9223372036854775807) (hB : B ≤ w.heap.size)
    (h : ∀ a' c' w', Pushed (Rep.flat n enc h0 h1) w B e v.ownBlock (xs ++ [y]) (.slice a' (xs.length + 1) c') w' → K (a.put o.dst (.slice a' (xs.length + 1) c')) w') : o.wp P a (w.alloc (.cells cs e)) K Q := by
  obtain ⟨a', c', w', hrun, h2⟩ := hown.pushed (P := P) (ty := o.type) hE cs hcs hbytes hlen hB
  unfold Oper.wp execOp
  simp only [ho, resolve, invoke, builtin, Sem.run_bind, Sem.run_pure, Result.andThen_ok, List.map_toArray, List.map_cons, List.map_nil, hs, hxe, hrun]
  exact h a' c' w' h2
theorem wpList_push {ops : Array Oper} {rest : List Oper} {o : Oper} {a : Act} {w : World} {Q : Exit → Act → World → Prop} (hgd : o.guard = none) (s x : Operand) (t : TypeId)
    (ho : o.op = .call { callee := .builtin .append, args := #[s, x], argTypes := #[t, t] })
    (B : Nat) (e : TypeId) (bytes : Nat) (hE : ElT P t e n bytes) (v : Value) (xs : List α) (y : α) (cs : Array Value) (hs : a.eval s = v) (hxe : a.eval x = .slice (some ⟨w.heap.size, 0, none⟩) 1 1) (hown : Own (Rep.flat n enc h0 h1) w B e NoB v xs)
    (hcs : cs = (enc y).toArray) (hbytes : (xs.length + 1) * bytes ≤ 140737488355328) (hlen : xs.length + 1 ≤ 9223372036854775807) (hB : B ≤ w.heap.size)
    (h : ∀ a' c' w', Pushed (Rep.flat n enc h0 h1) w B e v.ownBlock (xs ++ [y]) (.slice a' (xs.length + 1) c') w' → wpList P ops Q rest (a.put o.dst (.slice a' (xs.length + 1) c')) w') : wpList P ops Q (o :: rest) a (w.alloc (.cells cs e)) :=
  wpList_plain hgd fun _ hK => wp_push s x t ho B e bytes hE v xs y cs hs hxe hown hcs hbytes hlen hB fun a' c' w' h2 => hK _ _ (h a' c' w' h2)
end

/-- A row just laid out of a literal. -/
theorem Own.lit {α : Type} {n : Nat} {enc : α → List Value} {h0 : ∀ x, (enc x).length = n} {h1 : ∀ x, ∀ u ∈ enc x, u.oneCell' = true} (w : World) (e : TypeId) (l : List α) (cs : Array Value) (m : Nat) (hm : m = l.length) (hcs : cs.toList = l.flatMap enc) (hl : l.length ≤ 1000000) :
    Own (Rep.flat n enc h0 h1) (w.alloc (.cells cs e)) w.heap.size e NoB (.slice (some ⟨w.heap.size, 0, none⟩) m m) l := by
  subst hm
  have hels : ∀ (l : List α) (p : Blocks) (w : World), Els (Rep.flat n enc h0 h1) w p (l.flatMap enc) l := by
    intro l p w
    induction l with
    | nil => rfl
    | cons x l ih => exact ⟨enc x, l.flatMap enc, rfl, rfl, ih⟩
  have hlen : cs.size = l.length * n := by
    have := (hels l (fun _ => True) w).len
    rw [← hcs] at this
    simpa [Rep.flat] using this
  exact ⟨cs.toList, ⟨by simpa [Rep.flat] using hlen, .inr ⟨w.heap.size, l.length, cs, rfl, Nat.le_refl _, heap_alloc_new w _, Nat.le_refl _, by unfold maxLen; omega, hlen, List.take_of_length_le (by show cs.toList.length ≤ l.length * n; rw [← hlen, Array.length_toList]; exact Nat.le_refl _)⟩⟩, by rw [hcs]; exact hels l _ _⟩
theorem slR_lit {α : Type} {n : Nat} {enc : α → List Value} {h0 : ∀ x, (enc x).length = n} {h1 : ∀ x, ∀ u ∈ enc x, u.oneCell' = true} (w : World) (e : TypeId) (q : Blocks) (l : List α) (cs : Array Value) (m : Nat) (hm : m = l.length) (hcs : cs.toList = l.flatMap enc) (hl : l.length ≤ 1000000) (hq : ∀ k, w.heap.size ≤ k → q k) :
    SlR (Rep.flat n enc h0 h1) (w.alloc (.cells cs e)) q (.slice (some ⟨w.heap.size, 0, none⟩) m m) l := (Own.lit w e l cs m hm hcs hl).slR (fun _ h => h.elim) hq

def byteR : Rep UInt8 := Rep.flat 1 (fun b => [.int .u8 b.toNat]) (fun _ => rfl) (fun _ u hu => by simp at hu; subst hu; rfl)
theorem elByte : ElT Tryd.prog 58 5 byteR.size 1 := ElT.mk' (z := .int .u8 0) Tryd.underlying58 (by kernel_rfl) rfl (by decide)
/-- 'string(b)' of a slice of bytes. -/
theorem run_string_sl (w : World) (p : Blocks) (v : Value) (l : List UInt8) (h : SlR byteR w p v l) : (convert 58 9 v).run Tryd.prog w = .ok (.string ⟨l.toArray⟩) w := by
  obtain ⟨a, c, rfl, hc, hm, g⟩ := h
  cases l with
  | nil =>
    have hx := run_convert_bytes_string (P := Tryd.prog) w 58 9 5 a 0 c Tryd.underlying58 Tryd.underlying5 Tryd.underlying9
    show (convert _ _ (.slice a 0 c)).run _ w = _
    rw [hx]
    cases a <;> (simp [Conv.bytesToString, loadCells, loadCellsFrom]; rfl)
  | cons x xs =>
    obtain ⟨b, o, cs, rfl, _, _, _⟩ := g 0 x rfl
    exact run_convert_bytes_back w _ _ _ _ c (x :: xs) Tryd.underlying58 Tryd.underlying5 Tryd.underlying9 (fun j hj => by
      obtain ⟨b', o', cs', e, _, _, hcs, hr⟩ := g j (x :: xs)[j] (List.getElem?_eq_getElem hj)
      injection e with e
      injection e with e1 e2
      subst e1 e2
      have hr : cs' = [.int .u8 ((x :: xs)[j].toNat : Int)] := hr
      subst hr
      have := hcs 0 _ rfl
      have hadd : (⟨b, o, none⟩ : Addr).add j = ⟨b, o + j, none⟩ := by unfold Addr.add; split <;> simp_all
      rw [hadd]
      simpa [byteR, Rep.flat] using this)
end Go.Proofs.YtkkjoghfdmmpaaaDoor
