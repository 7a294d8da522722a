/-
  slices.Clone of bytes; append of one element with blocks of its own. Conditions: the new length's bytes.
-/
import Derived.Test.YtcfjcoockklkeaaDoorImg5
namespace Go.Proofs.YtcfjcoockklkeaaDoor
open Go.RowKit

theorem SlR.byte_nil {w : World} {p : Blocks} {n c : Nat} {l : List UInt8} (h : SlR byteR w p (.slice none n c) l) : l = [] := by
  obtain ⟨a, c2, e, _, _, g⟩ := h.byte
  cases l with
  | nil => rfl
  | cons y ys =>
    obtain ⟨b, o, ea, _⟩ := g 0 y rfl
    rw [ea] at e
    cases e
set_option maxRecDepth 100000 in
theorem CloneByte_any (p : Blocks) (v : Value) (l : List UInt8) (w : World) (h : SlR byteR w p v l) (hn : l.length ≤ 1000000) :
    Calls Tryd.prog 63 #[v] w fun e w' => ∃ v', e = .returned v' ∧ Own byteR w' w.heap.size 5 NoB v' l ∧ Below w.heap.size w w' := by
  have HN := Lib.hid hn
  clear hn
  obtain ⟨a, c, rfl, hc, hm, _⟩ := h.byte
  have HH := Lib.hid h
  clear h
  have heq := fun wx a n c => Lib.run_eql_slice_nil (P := Tryd.prog) wx 44 5 a n c 0 0 Tryd.underlying44
  cases a with
  | none =>
    obtain rfl : l = [] := HH.out.byte_nil
    go_enter Tryd.func63, Tryd.ntmps63
    go_wp2
    go_ret
    exact ⟨_, rfl, Own.nil _ _ _ _ _, Below.refl _ _⟩
  | some ad =>
    go_enter Tryd.func63, Tryd.ntmps63
    have HB : Below w.heap.size w (w.alloc (.cells #[] 5)) := (Below.refl _ _).alloc (Nat.le_refl _) _
    have HX : Hid (SlR byteR (w.alloc (.cells #[] 5)) (fun k => p k ∧ k < w.heap.size) (.slice (some ad) l.length c) l) := HH.out.old.below HB
    have HO : Hid (Own byteR (w.alloc (.cells #[] 5)) w.heap.size 5 NoB (.slice (some ⟨w.heap.size, 0, none⟩) 0 0) []) := Own.made w _ _
    have C2 : Hid (∀ k, p k ∧ k < w.heap.size → some k ≠ Value.ownBlock (.slice (some ⟨w.heap.size, 0, none⟩) 0 0)) := fun k hk e => by simp [Value.ownBlock] at e; omega
    have C3 : Hid (([] : List UInt8).length + l.length ≤ 1000000) := by have := HN.out; simp; omega
    go_wp2_with (at_builtin; refine wpList_append_R _ rfl (.tmp 5) (.tmp 6) 44 rfl w.heap.size 5 1 elByte NoB _ _ _ [] l rfl rfl HO.out HX.out (fun _ h => False.elim h) C2.out (by have := C3.out; omega) (by have := C3.out; omega) HB.size ?_; intro v' w' hap; have HAP := Lib.hid hap; clear hap)
    obtain ⟨ho, hg, _⟩ := HAP.out
    go_ret
    exact ⟨_, rfl, ho.flat NoB, HB.grown hg HB.size (fun k hk => by cases hk; exact Nat.le_refl _)⟩

/-- block k is a row of bytes -/
def ByB (w : World) (k : Nat) : Prop := ∃ cs, w.heap[k]? = some (.cells cs 5 (0, 0))
theorem ByB.lt {w : World} {k : Nat} (h : ByB w k) : k < w.heap.size := by obtain ⟨cs, h⟩ := h; exact (Array.getElem?_eq_some_iff.1 h).1
/-- block k is a row of one of some types -/
def TyB (w : World) (ts : List TypeId) (k : Nat) : Prop := ∃ cs t, t ∈ ts ∧ w.heap[k]? = some (.cells cs t (0, 0))
theorem TyB.lt {w : World} {ts : List TypeId} {k : Nat} (h : TyB w ts k) : k < w.heap.size := by obtain ⟨cs, t, _, h⟩ := h; exact (Array.getElem?_eq_some_iff.1 h).1
theorem TyB.same {w w' : World} {ts : List TypeId} {k : Nat} (h : TyB w ts k) (e : w'.heap[k]? = w.heap[k]?) : TyB w' ts k := by obtain ⟨cs, t, ht, h⟩ := h; exact ⟨cs, t, ht, e.trans h⟩
/-- An accumulator with elements whose blocks, too, are the call's own rows of bytes, none of them the row. -/
def OwnL {α : Type} (R : Rep α) (w : World) (B : Nat) (e : TypeId) (v : Value) (xs : List α) : Prop :=
  ∃ p : Blocks, Own R w B e p v xs ∧ ∀ k, p k → B ≤ k ∧ v.ownBlock ≠ some k ∧ TyB w [e, 5] k
section
variable {α : Type} {R : Rep α}
theorem OwnL.nil (w : World) (B : Nat) (e : TypeId) : OwnL R w B e (.slice none 0 0) ([] : List α) := ⟨NoB, Own.nil _ _ _ _ _, fun _ h => h.elim⟩
theorem OwnL.slR {w : World} {B : Nat} {e : TypeId} {v : Value} {xs : List α} (h : OwnL R w B e v xs) : SlR R w (fun k => B ≤ k ∧ k < w.heap.size) v xs := by
  obtain ⟨p, ho, hp⟩ := h
  exact ((ho.slR (q := fun k => B ≤ k) (fun k hk => (hp k hk).1) (fun _ h => h)).old)
theorem Own.rowT {w : World} {B : Nat} {e : TypeId} {p : Blocks} {v : Value} {xs : List α} (h : Own R w B e p v xs) {k : Nat} (hk : v.ownBlock = some k) : ∃ cs, w.heap[k]? = some (.cells cs e (0, 0)) := by
  obtain ⟨cs, ho, _⟩ := h
  rcases ho.2 with ⟨hv, _⟩ | ⟨g, cap, cur, hv, _, hg, _⟩
  · rw [hv] at hk; cases hk
  · rw [hv] at hk
    injection hk with hk
    subst hk
    exact ⟨_, hg⟩
theorem Own.slO {w : World} {B : Nat} {e : TypeId} {p q : Blocks} {v : Value} {xs : List α} (h : Own R w B e p v xs) (hq : ∀ k, p k → q k) (hB : ∀ k, v.ownBlock = some k → q k) : SlR R w q v xs := by
  obtain ⟨cs, hrow, hels⟩ := h
  rcases hrow.2 with ⟨rfl, hn⟩ | ⟨g, cap, cur, rfl, hb, hg, hnc, hcm, hcs, htake⟩
  · obtain rfl : xs = [] := List.eq_nil_of_length_eq_zero hn
    exact SlR.nil _ _ _
  · have hcells : Cells w g 0 cs := fun j u hu => by
      have := hrow.cells (g := g) rfl j u hu
      have hadd : (⟨g, 0, none⟩ : Addr).add j = ⟨g, 0 + j, none⟩ := by unfold Addr.add; split <;> simp_all
      rwa [hadd] at this
    refine ⟨_, cap, rfl, hnc, hcm, fun i x hx => ?_⟩
    obtain ⟨c, hc, hr⟩ := hels.get hcells i x hx
    exact ⟨g, 0, c, rfl, hB _ rfl, (Array.getElem?_eq_some_iff.1 hg).1, hc, R.mono hq hr⟩
theorem OwnL.form {w : World} {B : Nat} {e : TypeId} {v : Value} {xs : List α} (h : OwnL R w B e v xs) : ∃ a cap, v = .slice a xs.length cap := by
  obtain ⟨p, ho, _⟩ := h
  exact ho.form
theorem OwnL.lt {w : World} {B : Nat} {e : TypeId} {v : Value} {xs : List α} (h : OwnL R w B e v xs) : ∀ k, v.ownBlock = some k → B ≤ k ∧ k < w.heap.size := by
  obtain ⟨p, ho, _⟩ := h
  exact ho.lt
/-- Whatever leaves rows of the two types from B on as they were. -/
theorem OwnL.keepT {w w' : World} {B : Nat} {e : TypeId} {v : Value} {xs : List α} (h : OwnL R w B e v xs) (hk : ∀ k, B ≤ k → TyB w [e, 5] k → w'.heap[k]? = w.heap[k]?) : OwnL R w' B e v xs := by
  obtain ⟨p, ho, hp⟩ := h
  have hsame : ∀ k, p k → w'.heap[k]? = w.heap[k]? := fun k hk2 => by
    obtain ⟨h1, _, h3⟩ := hp k hk2
    exact hk k h1 h3
  refine ⟨p, ho.keep (fun k hk2 => ?_), fun k hk2 => ⟨(hp k hk2).1, (hp k hk2).2.1, ?_⟩⟩
  · rcases hk2 with h2 | h2
    · exact hsame k h2
    · obtain ⟨cs, h3⟩ := ho.rowT h2
      exact hk k (ho.lt k h2).1 ⟨cs, _, by simp, h3⟩
  · exact (hp k hk2).2.2.same (hsame k hk2)
theorem OwnL.keep {w w' : World} {B : Nat} {e : TypeId} {v : Value} {xs : List α} (h : OwnL R w B e v xs) (hk : Keep (fun k => B ≤ k ∧ k < w.heap.size) w w') : OwnL R w' B e v xs :=
  h.keepT fun k h1 ⟨_, _, _, h2⟩ => hk k ⟨h1, (Array.getElem?_eq_some_iff.1 h2).1⟩
theorem OwnL.stay {w w' : World} {B : Nat} {e : TypeId} {v : Value} {xs : List α} (h : OwnL R w B e v xs) (hb : Below w.heap.size w w') : OwnL R w' B e v xs := h.keep (Keep.of_below hb fun _ hk => hk.2)
theorem OwnL.base {w : World} {B B' : Nat} {e : TypeId} {v : Value} {xs : List α} (h : OwnL R w B e v xs) (hB : B' ≤ B) : OwnL R w B' e v xs := by
  obtain ⟨p, ho, hp⟩ := h
  exact ⟨p, ho.base hB, fun k hk => ⟨Nat.le_trans hB (hp k hk).1, (hp k hk).2⟩⟩
/-- read, with the types of the blocks -/
theorem OwnL.slT {w : World} {B : Nat} {e : TypeId} {v : Value} {xs : List α} (h : OwnL R w B e v xs) : SlR R w (fun k => B ≤ k ∧ TyB w [e, 5] k) v xs := by
  obtain ⟨p, ho, hp⟩ := h
  refine ho.slO (fun k hk => ?_) (fun k hk => ?_)
  · exact ⟨(hp k hk).1, (hp k hk).2.2⟩
  · obtain ⟨cs, h3⟩ := ho.rowT hk
    exact ⟨(ho.lt k hk).1, cs, _, by simp, h3⟩

variable {P : Program}
def PushedL (R : Rep α) (w : World) (B : Nat) (e : TypeId) (row : Option Nat) (zs : List α) (v' : Value) (w' : World) : Prop := OwnL R w' B e v' zs ∧ w.grownBy w' row
theorem OwnL.pushed {w : World} {B bytes : Nat} {t ty e : TypeId} {v : Value} {xs : List α} {x : α} {q : Blocks} (hE : ElT P t e R.size bytes) (h : OwnL R w B e v xs) (cs : Array Value) (hx : R.rel w q cs.toList x)
    (hq : ∀ k, q k → B ≤ k ∧ v.ownBlock ≠ some k ∧ ByB w k) (hbytes : (xs.length + 1) * bytes ≤ 140737488355328) (hlen : xs.length + 1 ≤ 9223372036854775807) (hB : B ≤ w.heap.size) :
    ∃ a c w', (Builtin.append_ #[t, t] ty #[v, .slice (some ⟨w.heap.size, 0, none⟩) 1 1]).run P (w.alloc (.cells cs e)) = .ok (.slice a (xs.length + 1) c) w' ∧ PushedL R w B e v.ownBlock (xs ++ [x]) (.slice a (xs.length + 1) c) w' := by
  have hlt := h.lt
  obtain ⟨p, ho, hp⟩ := h
  have hone := slR_one hx e
  rw [Array.toArray_toList] at hone
  obtain ⟨v', w', hrun, ho2, hg, hv⟩ := run_append_R (P := P) (w := w.alloc (.cells cs e)) B t ty e bytes hE (p := p) (q := fun k => q k ∨ k = w.heap.size) (v := v)
    (vx := .slice (some ⟨w.heap.size, 0, none⟩) 1 1) (xs := xs) (ys := [x])
    (ho.keep (Keep.of_below ((Below.refl _ _).alloc (Nat.le_refl _) _) (fun k hk => by rcases hk with hk | hk; exact (hp k hk).2.2.lt; exact (hlt k hk).2))) hone (fun k hk e => (hp k hk).2.1 e.symm)
    (fun k hk e => by
      rcases hk with hk | rfl
      · exact (hq k hk).2.1 e.symm
      · exact absurd (hlt _ e.symm).2 (Nat.lt_irrefl _)) (by simpa using hbytes) (by simpa using hlen) (by simp; omega)
  obtain ⟨a, c, rfl⟩ := ho2.form
  have hg2 := grown_step (World.grownBy_alloc w (.cells cs e) _) hg
  rw [List.length_append, List.length_singleton] at hrun ho2 hv
  have hs1 : w.heap.size + 1 ≤ w'.heap.size := by have := hg.size; simpa using this
  have hv2 : Value.ownBlock (.slice a (xs.length + 1) c) = v.ownBlock ∨ Value.ownBlock (.slice a (xs.length + 1) c) = some (w.heap.size + 1) := by
    rcases hv with hv | hv
    · exact .inl hv
    · exact .inr (by simpa using hv)
  refine ⟨a, c, w', hrun, ⟨_, ho2, fun k hk => ?_⟩, hg2⟩
  have hne : ∀ k, v.ownBlock ≠ some k → k < w.heap.size + 1 → Value.ownBlock (.slice a (xs.length + 1) c) ≠ some k := fun k hk1 hk2 e => by
    rcases hv2 with e2 | e2
    · rw [e2] at e; exact hk1 e
    · rw [e2] at e; injection e with e; omega
  rcases hk with hk | hk | rfl
  · obtain ⟨h1, h2, h3⟩ := hp k hk
    exact ⟨h1, hne k h2 (by have := h3.lt; omega), h3.same (hg2.block k h3.lt (fun e => h2 e.symm))⟩
  · obtain ⟨h1, h2, cs2, h3⟩ := hq k hk
    have hlt3 := (Array.getElem?_eq_some_iff.1 h3).1
    exact ⟨h1, hne k h2 (by omega), cs2, _, by simp, (hg2.block k hlt3 (fun e => h2 e.symm)).trans h3⟩
  · have h2 : v.ownBlock ≠ some w.heap.size := fun e => absurd (hlt _ e).2 (Nat.lt_irrefl _)
    refine ⟨hB, hne _ h2 (by omega), cs, e, by simp, ?_⟩
    exact (hg.block _ (by simp) (fun e => h2 e.symm)).trans (heap_alloc_new w _)
theorem wp_pushL {o : Oper} {a : Act} {w : World} {K : Act → World → Prop} {Q : Exit → Act → World → Prop} (s x : Operand) (t : TypeId)
    (ho : o.op = .call { callee := .builtin .append, args := #[s, x], argTypes := #[t, t] })
    (B : Nat) (e : TypeId) (bytes : Nat) (hE : ElT P t e R.size bytes) (v : Value) (xs : List α) (y : α) (cs : Array Value) (q : Blocks) (hs : a.eval s = v) (hxe : a.eval x = .slice (some ⟨w.heap.size, 0, none⟩) 1 1) (hown : OwnL R w B e v xs)
    (hx : R.rel w q cs.toList y) (hq : ∀ k, q k → B ≤ k ∧ v.ownBlock ≠ some k ∧ ByB w k) (hbytes : (xs.length + 1) * bytes ≤ 140737488355328) (hlen : xs.length + 1 ≤ 9223372036854775807) (hB : B ≤ w.heap.size)
    (h : ∀ a' c' w', PushedL R w B e v.ownBlock (xs ++ [y]) (.slice a' (xs.length + 1) c') w' → K (a.put o.dst (.slice a' (xs.length + 1) c')) w') : o.wp P a (w.alloc (.cells cs e)) K Q := by
  obtain ⟨a', c', w', hrun, h2⟩ := hown.pushed (P := P) (ty := o.type) hE cs hx hq hbytes hlen hB
  unfold Oper.wp execOp
  simp only [ho, resolve, invoke, builtin, Sem.run_bind, Sem.run_pure, Result.andThen_ok, List.map_toArray, List.map_cons, List.map_nil, hs, hxe, hrun]
  exact h a' c' w' h2
theorem wpList_pushL {ops : Array Oper} {rest : List Oper} {o : Oper} {a : Act} {w : World} {Q : Exit → Act → World → Prop} (hgd : o.guard = none) (s x : Operand) (t : TypeId)
    (ho : o.op = .call { callee := .builtin .append, args := #[s, x], argTypes := #[t, t] })
    (B : Nat) (e : TypeId) (bytes : Nat) (hE : ElT P t e R.size bytes) (v : Value) (xs : List α) (y : α) (cs : Array Value) (q : Blocks) (hs : a.eval s = v) (hxe : a.eval x = .slice (some ⟨w.heap.size, 0, none⟩) 1 1) (hown : OwnL R w B e v xs)
    (hx : R.rel w q cs.toList y) (hq : ∀ k, q k → B ≤ k ∧ v.ownBlock ≠ some k ∧ ByB w k) (hbytes : (xs.length + 1) * bytes ≤ 140737488355328) (hlen : xs.length + 1 ≤ 9223372036854775807) (hB : B ≤ w.heap.size)
    (h : ∀ a' c' w', PushedL R w B e v.ownBlock (xs ++ [y]) (.slice a' (xs.length + 1) c') w' → wpList P ops Q rest (a.put o.dst (.slice a' (xs.length + 1) c')) w') : wpList P ops Q (o :: rest) a (w.alloc (.cells cs e)) :=
  wpList_plain hgd fun _ hK => wp_pushL s x t ho B e bytes hE v xs y cs q hs hxe hown hx hq hbytes hlen hB fun a' c' w' h2 => hK _ _ (h a' c' w' h2)
end
end Go.Proofs.YtcfjcoockklkeaaDoor
