/-
  hexwrite.lines. Conditions: the size in its range.
-/
import Derived.Test.YtcfjcoockklkeaaDoorW8
namespace Go.Proofs.YtcfjcoockklkeaaDoor
open Go.RowKit
attribute [local go_sem] Oper.semAt_some

def lineB (y : Nat × Nat × List UInt8) : ByteArray := ⟨(recLine y.1 y.2.1 y.2.2).toArray⟩
theorem elStr : ElT Tryd.prog 33 9 strR.size 16 := ElT.mk' (z := .string ⟨#[]⟩) Tryd.underlying33 (by kernel_rfl) rfl (by decide)
theorem recs_count {n : Nat} (hn : 1 ≤ n) : ∀ {R : List (Nat × List UInt8)} {lo : Nat}, Sep lo R → R = [] ∨ (recs n R).length + lo ≤ 65536
  | [], _, _ => .inl rfl
  | (a, l) :: R, lo, h => by
    obtain ⟨h1, h2, h3, h4⟩ := h
    right
    have hs := splitL_le (n := n) (by omega) a l
    have hc : (recs n ((a, l) :: R)).length = (splitL n a l).length + (recs n R).length := by
      unfold recs
      rw [List.flatMap_cons, List.length_append]
    rw [hc]
    rcases recs_count hn h4 with rfl | h5
    · have : (recs n []).length = 0 := rfl
      omega
    · omega
theorem allRecs_mem {n : Nat} {R : List (Nat × List UInt8)} (hn : 1 ≤ n) (hn2 : n ≤ 255) (hS : Sep 0 R) {y : Nat × Nat × List UInt8} (h : y ∈ allRecs n R) : y.1 ≤ 255 ∧ y.2.1 ≤ 65535 ∧ y.2.2.length ≤ 255 := by
  rcases List.mem_append.1 h with h | h
  · obtain ⟨r, hr, rfl⟩ := List.mem_map.1 h
    obtain ⟨x1, x2, x3⟩ := recs_mem (by omega) hS r hr
    have := List.length_pos_iff.2 x1
    exact ⟨Nat.zero_le _, by show r.1 ≤ _; omega, by show r.2.length ≤ _; omega⟩
  · simp at h
    subst h
    exact ⟨by decide, by decide, by decide⟩
theorem wpListIn_run {F : Fence} {n : Nat} {P : Program} {ops : Array Oper} {rest : List Oper} {o : Oper} {a : Act} {Q : Exit → Act → World → Prop} {w : World} (hgd : o.guard = none) (s x : Operand) (t : TypeId)
    (ho : o.op = .call { callee := .builtin .append, args := #[s, x], argTypes := #[t, t] }) (v' : Value) (w' : World) (hrun : (Builtin.append_ #[t, t] o.type #[a.eval s, a.eval x]).run P w = .ok v' w') (h : wpListIn F n P ops Q rest (a.put o.dst v') w') :
    wpListIn F n P ops Q (o :: rest) a w := by
  refine wpListIn_plain hgd fun K hK' => ?_
  unfold Oper.wpIn
  refine ⟨?_, ?_⟩
  · simp [Oper.about, ho, resolve, Target.leads, Sem.run_pure]
  · rw [Oper.semAt_plain F _ _ (by rw [ho]; intro c hc'; cases hc')]
    simp [execOp, ho, resolve, invoke, builtin, hrun, Result.andThen]
    exact hK' _ _ h
structure LnI (w0 : World) (bO : Nat) (pre : List YRec) (w : World) : Prop where
  out : ∃ ov, Blk w bO 33 #[ov] ∧ Own strR w w0.heap.size 9 NoB ov (pre.map fun x => lineB (specY x))
  below : Below w0.heap.size w0 w
theorem Own.ownS {α : Type} {R : Rep α} {w w' : World} {B B' : Nat} {e : TypeId} {v : Value} {xs : List α} {row : Option Nat} (h : Own R w B e NoB v xs) (hg : w.grownBy w' row) (hr : ∀ r, row = some r → B' ≤ r ∧ ∃ o : Obj, w.heap[r]? = some o ∧ o.isCells = false) : Own R w' B e NoB v xs :=
  h.keep fun k hk => by
    rcases hk with hk | hk
    · exact hk.elim
    · obtain ⟨cs, h2⟩ := h.rowT hk
      exact hg.block k (h.lt k hk).2 (fun e => by
        obtain ⟨_, o, ho, hc⟩ := hr k e.symm
        rw [h2] at ho
        injection ho with ho
        subst ho
        cases hc)
theorem Own.stayS {α : Type} {R : Rep α} {w w' : World} {B : Nat} {e : TypeId} {v : Value} {xs : List α} (h : Own R w B e NoB v xs) (hb : Below w.heap.size w w') : Own R w' B e NoB v xs :=
  h.keep (Keep.of_below hb (fun j hj => by rcases hj with hj | hj; exact hj.elim; exact (h.lt j hj).2))
theorem LnI.own {w0 : World} {bO B : Nat} (hB : w0.heap.size ≤ B) : OwnFrom B (LnI w0 bO) := fun pre A C row h hg hr => by
  obtain ⟨⟨ov, h1, h2⟩, h4⟩ := h
  exact ⟨⟨ov, h1.own hg hr, h2.ownS hg hr⟩, h4.grown hg h4.size (fun k hk => by have := (hr k hk).1; omega)⟩
theorem LnI.later {w0 : World} {bO : Nat} {pre : List YRec} {w w' : World} (h : LnI w0 bO pre w) (hb : Below w.heap.size w w') : LnI w0 bO pre w' := by
  obtain ⟨⟨ov, h1, h2⟩, h4⟩ := h
  exact ⟨⟨ov, h1.below hb h1.lt, h2.stayS hb⟩, h4.trans (hb.mono h4.size)⟩
/-- what the body of a round is told of its record -/
structure LnA (n : Nat) (R : List (Nat × List UInt8)) (pre : List YRec) (x : YRec) (Bx : Nat) (w : World) : Prop where
  box : Blk w Bx 46 #[.int .i64 x.t, .int .i64 x.a, .slice x.sa x.l.length x.sc]
  data : SlR byteR w (TyB w dataTs) (.slice x.sa x.l.length x.sc) x.l
  all : ∃ r, (pre.map specY ++ [specY x]) ++ r = allRecs n R
theorem SlR.ownT {α : Type} {R : Rep α} {w w' : World} {B' : Nat} {ts : List TypeId} {v : Value} {xs : List α} {row : Option Nat} (h : SlR R w (TyB w ts) v xs) (hg : w.grownBy w' row) (hr : ∀ r, row = some r → B' ≤ r ∧ ∃ o : Obj, w.heap[r]? = some o ∧ o.isCells = false) : SlR R w' (TyB w' ts) v xs := by
  have hsame : ∀ k, TyB w ts k → w'.heap[k]? = w.heap[k]? := fun k ⟨cs, t, _, hk⟩ => hg.block k (Array.getElem?_eq_some_iff.1 hk).1 (fun e => by
    obtain ⟨_, o, ho, hc⟩ := hr k e.symm
    rw [hk] at ho
    injection ho with ho
    subst ho
    cases hc)
  exact (h.keep hsame).mono (fun k hk => hk.same (hsame k hk))
/-- the append of one line, and the store -/
theorem line_app {w0 W w2 : World} {bO : Nat} {ov : Value} {pre : List YRec} {x : YRec} (hko : Blk W bO 33 #[ov]) (hov : Own strR W w0.heap.size 9 NoB ov (pre.map fun x => lineB (specY x))) (hbw : Below w0.heap.size w0 W) (hxl : pre.length ≤ 100000) (hb : Below W.heap.size W w2) :
    ∃ a5 c5 w3, (Builtin.append_ #[33, 33] 33 #[ov, .slice (some ⟨w2.heap.size, 0, none⟩) 1 1]).run Tryd.prog (w2.alloc (.cells #[.string (lineB (specY x))] 9)) = .ok (.slice a5 (pre.length + 1) c5) w3 ∧ Blk w3 bO 33 #[ov] ∧
      ∀ B, w0.heap.size ≤ bO → Recs B W (w3.setCell ⟨bO, 0, none⟩ (.slice a5 (pre.length + 1) c5)) ∧ Tk notStr W (w3.setCell ⟨bO, 0, none⟩ (.slice a5 (pre.length + 1) c5)) ∧ LnI w0 bO (pre ++ [x]) (w3.setCell ⟨bO, 0, none⟩ (.slice a5 (pre.length + 1) c5)) := by
  have hov2 := hov.stayS hb
  have hB : w0.heap.size ≤ w2.heap.size := Nat.le_trans hbw.size hb.size
  obtain ⟨a5, c5, w3, hrun, hp, hg, _⟩ := Own.pushedA (P := Tryd.prog) (t := 33) (ty := 33) (x := lineB (specY x)) elStr hov2 #[.string (lineB (specY x))] rfl (by simp; omega) (by simp; omega) hB
  rw [List.length_map] at hrun hp
  have hsame : ∀ k o, W.heap[k]? = some o → ov.ownBlock ≠ some k → w3.heap[k]? = some o := fun k o hk hne => by
    have hlt : k < W.heap.size := (Array.getElem?_eq_some_iff.1 hk).1
    exact (hg.block k (Nat.lt_of_lt_of_le hlt hb.size) (fun e => hne e.symm)).trans ((hb.block k hlt).trans hk)
  have hnr : ov.ownBlock ≠ some bO := fun e => by
    obtain ⟨cs2, h2⟩ := hov.rowT e
    have hk : W.heap[bO]? = some (.cells #[ov] 33 (0, 0)) := hko
    rw [hk] at h2
    injection h2 with h2
    injection h2 with _ h2
    exact absurd h2 (by decide)
  have hk3 : Blk w3 bO 33 #[ov] := hsame _ _ hko hnr
  refine ⟨a5, c5, w3, hrun, hk3, fun B hBO => ?_⟩
  have hset : ∀ k o, w3.heap[k]? = some o → k ≠ bO → (w3.setCell ⟨bO, 0, none⟩ (.slice a5 (pre.length + 1) c5)).heap[k]? = some o := fun k o hk h1 => (Below.heap_setCell _ _ _ _ h1).trans hk
  have hall : ∀ k o, W.heap[k]? = some o → ov.ownBlock ≠ some k → k ≠ bO → (w3.setCell ⟨bO, 0, none⟩ (.slice a5 (pre.length + 1) c5)).heap[k]? = some o := fun k o hk h1 h2 => hset k o (hsame k o hk h1) h2
  refine ⟨⟨?_, fun k o _ hk hc => hall k o hk (fun e => ?_) (fun e => ?_)⟩, fun k o hns hk _ => hall k o hk (fun e => ?_) (fun e => ?_), ⟨_, hk3.set 0 _, ?_⟩, (hbw.trans (hb.mono hbw.size) |>.grown hg hB (fun k hk => (hov.lt k hk).1)).setCell (p := ⟨bO, 0, none⟩) hBO _⟩
  · have : (w3.setCell ⟨bO, 0, none⟩ (.slice a5 (pre.length + 1) c5)).heap.size = w3.heap.size := by simp [World.setCell]
    rw [this]
    exact Nat.le_trans hb.size hg.size
  · obtain ⟨cs2, h2⟩ := hov.rowT e
    rw [hk] at h2; injection h2 with h2; subst h2; cases hc
  · subst e
    have h2 : W.heap[k]? = some (.cells #[ov] 33 (0, 0)) := hko
    rw [hk] at h2; injection h2 with h2; subst h2; cases hc
  · obtain ⟨cs2, h2⟩ := hov.rowT e
    rw [hk] at h2; injection h2 with h2
    exact (hns _ _ _ h2).1 rfl
  · subst e
    have h2 : W.heap[k]? = some (.cells #[ov] 33 (0, 0)) := hko
    rw [hk] at h2; injection h2 with h2
    exact (hns _ _ _ h2).2 rfl
  · rw [List.map_append, List.map_singleton]
    refine hp.keep (fun k hk => ?_)
    rcases hk with hk | hk
    · exact hk.elim
    · refine Below.heap_setCell _ _ _ _ (fun e => ?_)
      obtain ⟨cs2, h2⟩ := hp.rowT hk
      subst e
      have hk : w3.heap[k]? = some (.cells #[ov] 33 (0, 0)) := hk3
      rw [hk] at h2
      injection h2 with h2
      injection h2 with _ h2
      exact absurd h2 (by decide)
end Go.Proofs.YtcfjcoockklkeaaDoor
