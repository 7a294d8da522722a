/-
  slices.AppendSeq, slices.Collect over items.each; items.Decode. Conditions: the library's table as its initialiser lays it; sizes.
-/
import Derived.Test.YtnbmbcjnncbaiaaGreatDoorJ4
namespace Go.Proofs.YtnbmbcjnncbaiaaGreatDoor
open Go.RowKit Go.Shelf Go.Sort
attribute [local go_sem] Oper.semAt_some

theorem wpListIn_append_run {F : Fence} {nF : Nat} {P : Program} {ops : Array Oper} {rest : List Oper} {o : Oper} {a : Act} {w : World} {Q : Exit → Act → World → Prop} (hgd : o.guard = none) (s x : Operand) (t : TypeId)
    (ho : o.op = .call { callee := .builtin .append, args := #[s, x], argTypes := #[t, t] }) {v vx r : Value} {w' : World} (hs : a.eval s = v) (hxe : a.eval x = vx) (hrun : (Builtin.append_ #[t, t] o.type #[v, vx]).run P w = .ok r w')
    (h : wpListIn F nF P ops Q rest (a.put o.dst r) w') : wpListIn F nF P ops Q (o :: rest) a w := by
  refine wpListIn_plain hgd fun K hK' => ?_
  unfold Oper.wpIn
  refine ⟨?_, ?_⟩
  · simp [Oper.about, ho, resolve, Target.leads, Sem.run_pure]
  · rw [Oper.semAt_plain F _ _ (by rw [ho]; intro c hc'; cases hc')]
    simp [execOp, ho, resolve, invoke, builtin, hs, hxe, hrun, Result.andThen]
    exact hK' _ _ h
theorem Tk.ownI {P : Blocks} {B : Nat} {W W' : World} {row : Option Nat} (hg : W.grownBy W' row) (hr : ∀ r, row = some r → B ≤ r ∧ ∃ o : Obj, W.heap[r]? = some o ∧ o.isCells = false) : Tk P W W' := fun k o _ hk hc =>
  (hg.block k (Array.getElem?_eq_some_iff.1 hk).1 (fun e => by
    obtain ⟨_, o2, ho, hc2⟩ := hr k e.symm
    rw [hk] at ho
    injection ho with ho
    subst ho
    rw [hc] at hc2
    cases hc2)).trans hk
theorem SlR.tkO {w w' : World} {p P : Blocks} {v : Value} {xs : List Opd} (h : SlR opdR w p v xs) (ht : Tk P w w') (hp : ∀ k, p k → P k) : SlR opdR w' p v xs := by
  obtain ⟨a, cap, e, h1, h2, h3⟩ := h
  refine ⟨a, cap, e, h1, h2, fun i x hx => ?_⟩
  obtain ⟨b, o, cs, ea, hb, hbs, hc, hr⟩ := h3 i x hx
  have hr2 : cs = x.cells := hr
  obtain ⟨ob, ho, hoc⟩ := blk_of_cell (hc 0 _ (by rw [hr2]; rfl))
  have ho2 := ht b ob (hp b hb) ho hoc
  exact ⟨b, o, cs, ea, hb, (Array.getElem?_eq_some_iff.1 ho2).1, fun j v hv => (World.cell?_of_block (ho2.trans ho.symm)).trans (hc j v hv), hr⟩
theorem Els.tkJ {w w' : World} {p : Blocks} (ht : Tk p w w') : ∀ {xs : List It} {cs : List Value}, Els itR w p cs xs → Els itR w' p cs xs
  | [], _, h => h
  | _ :: _, _, ⟨c1, c2, e, ⟨ra, rc, va, vc, e2, hs, ho⟩, h2⟩ => ⟨c1, c2, e, ⟨ra, rc, va, vc, e2, hs.tkY ht (fun _ h => h), ho.tkO ht (fun _ h => h)⟩, Els.tkJ ht h2⟩
theorem Acc.tkJ {w w' : World} {B : Nat} {e : TypeId} {v : Value} {xs : List It} (h : Acc itR w B e v xs) (ht : Tk (fun _ => True) w w') (hs : w.heap.size ≤ w'.heap.size) : Acc itR w' B e v xs := by
  obtain ⟨p, ⟨cs, hrow, hels⟩, hp⟩ := h
  refine ⟨p, ⟨cs, ⟨hrow.1, ?_⟩, hels.tkJ (fun k o _ hk hc => ht k o trivial hk hc)⟩, fun k hk => ⟨(hp k hk).1, Nat.lt_of_lt_of_le (hp k hk).2.1 hs, (hp k hk).2.2⟩⟩
  rcases hrow.2 with hn | ⟨g, cap, cur, rfl, hb, hg, rest⟩
  · exact .inl hn
  · exact .inr ⟨g, cap, cur, rfl, hb, ht _ _ trivial hg rfl, rest⟩
theorem cellI_lt {w : World} {b j : Nat} {v : Value} (h : w.cell? ⟨b, j, none⟩ = some v) : b < w.heap.size := by
  obtain ⟨o, ho, _⟩ := blk_of_cell h
  exact (Array.getElem?_eq_some_iff.1 ho).1
/-- the accumulator in the box bo lies in memory -/
def PhI (bo : Nat) (W : World) : Prop := ∃ u, W.cell? ⟨bo, 0, none⟩ = some u ∧ ∀ k, u.ownBlock = some k → k < W.heap.size
/-- a round keeps the blocks under bo, and the accumulator in memory -/
structure TkI (bo : Nat) (A C : World) : Prop where
  size : A.heap.size ≤ C.heap.size
  tk : Tk (fun k => k < bo) A C
  phi : PhI bo A → PhI bo C
theorem TkI.trans {bo : Nat} {A C D : World} (h : TkI bo A C) (g : TkI bo C D) : TkI bo A D := ⟨Nat.le_trans h.size g.size, h.tk.trans g.tk, fun x => g.phi (h.phi x)⟩
theorem PhI.below {bo : Nat} {A C : World} (h : Below A.heap.size A C) (g : PhI bo A) : PhI bo C := by
  obtain ⟨u, hu, hk⟩ := g
  exact ⟨u, (h.cell (p := ⟨bo, 0, none⟩) (cellI_lt hu)).trans hu, fun k e => Nat.lt_of_lt_of_le (hk k e) h.size⟩
theorem TkI.below {bo : Nat} {A C : World} (h : Below A.heap.size A C) : TkI bo A C := ⟨h.size, Tk.below h, PhI.below h⟩
theorem TkI.put {bo : Nat} (W : World) (l : Nat) (o o' : Obj) (hl : W.heap[l]? = some o) (ho : o.isCells = false) : TkI bo W (W.putObj l o') := by
  have ht : Tk (fun _ => True) W (W.putObj l o') := Tk.put W l o o' hl ho
  have hs := (put_grown (W := W) (l := l) o').size
  refine ⟨hs, Tk.put W l o o' hl ho, fun ⟨u, hu, hk⟩ => ?_⟩
  obtain ⟨q, hq, hqc⟩ := blk_of_cell hu
  have h2 := ht bo q trivial hq hqc
  exact ⟨u, (World.cell?_of_block (h2.trans hq.symm)).trans hu, fun k e => Nat.lt_of_lt_of_le (hk k e) hs⟩
/-- what the loop holds that collects items -/
structure ItI (w wS : World) (bo : Nat) (L : List It) (W : World) : Prop where
  tk : Tk (fun k => k < bo) wS W
  acc : ∃ v, Blk W bo 39 #[v] ∧ Acc itR W wS.heap.size tItm v L
  below : Below w.heap.size w W
  size : wS.heap.size ≤ W.heap.size
theorem ItI.own {w wS W W' : World} {bo : Nat} {L : List It} {row : Option Nat} (hB : w.heap.size ≤ wS.heap.size) (h : ItI w wS bo L W) (hg : W.grownBy W' row) (hr : ∀ r, row = some r → wS.heap.size ≤ r ∧ ∃ o : Obj, W.heap[r]? = some o ∧ o.isCells = false) : ItI w wS bo L W' := by
  obtain ⟨v, h1, h2⟩ := h.acc
  exact ⟨h.tk.trans (Tk.ownI hg hr), ⟨v, blk_own h1 hg hr, h2.tkJ (Tk.ownI hg hr) hg.size⟩, h.below.grown hg h.below.size (fun k hk => Nat.le_trans hB (hr k hk).1), Nat.le_trans h.size hg.size⟩
theorem ItI.stay {w wS W W' : World} {bo : Nat} {L : List It} (h : ItI w wS bo L W) (hb : Below W.heap.size W W') : ItI w wS bo L W' := by
  obtain ⟨v, h1, h2⟩ := h.acc
  exact ⟨h.tk.trans (Tk.below hb), ⟨v, h1.below hb h1.lt, h2.stay hb⟩, h.below.trans (hb.mono h.below.size), Nat.le_trans h.size hb.size⟩
/-- an item is appended -/
theorem ItI.app {w wS W : World} {bo : Nat} {L : List It} {oa : Option Addr} {oc : Nat} (x : It) (cs : Array Value) (q : Blocks) (h : ItI w wS bo L W) (hw : w.heap.size ≤ bo) (hbo : bo < wS.heap.size) (h1 : Blk W bo 39 #[.slice oa L.length oc]) (hL : L.length ≤ 1000000)
    (hx : itR.rel W q cs.toList x) (hq : ∀ k, q k → wS.heap.size ≤ k ∧ Value.ownBlock (.slice oa L.length oc) ≠ some k) :
    ∃ a5 c5 w3, (Builtin.append_ #[39, 39] 39 #[.slice oa L.length oc, .slice (some ⟨W.heap.size, 0, none⟩) 1 1]).run Tryz.prog (W.alloc (.cells cs 29)) = .ok (.slice a5 (L.length + 1) c5) w3 ∧
      Blk w3 bo 39 #[.slice oa L.length oc] ∧ Recs wS.heap.size W (w3.setCell ⟨bo, 0, none⟩ (.slice a5 (L.length + 1) c5)) ∧ TkI bo W (w3.setCell ⟨bo, 0, none⟩ (.slice a5 (L.length + 1) c5)) ∧ ItI w wS bo (L ++ [x]) (w3.setCell ⟨bo, 0, none⟩ (.slice a5 (L.length + 1) c5)) := by
  obtain ⟨v, hv1, hacc⟩ := h.acc
  obtain rfl : v = .slice oa L.length oc := by
    have e := hv1.symm.trans h1
    injection e with e
    injection e with e
    injection e with e
    injection e with e
  have hlt := hacc.lt
  have hcells : ∀ k, Value.ownBlock (.slice oa L.length oc) = some k → ∃ cs t fz, W.heap[k]? = some (.cells cs t fz) := by
    obtain ⟨p, ⟨cs, hrow, _⟩, _⟩ := hacc
    intro k hk
    rcases hrow.2 with ⟨e, _⟩ | ⟨g, cap, cur, e, hb, hg2, _⟩
    · rw [e] at hk; cases hk
    · rw [e] at hk; injection hk with hk; subst hk; exact ⟨_, _, _, hg2⟩
  obtain ⟨a5, c5, w3, hrun, ho, hg, hn⟩ := Acc.pushed (P := Tryz.prog) (t := 39) (ty := 39) (x := x) elIT hacc cs hx hq (by omega) (by omega) h.size
  have hkeep : ∀ k o, W.heap[k]? = some o → Value.ownBlock (.slice oa L.length oc) ≠ some k → w3.heap[k]? = some o := fun k o hk hne => (hg.block k (Array.getElem?_eq_some_iff.1 hk).1 (fun e => hne e.symm)).trans hk
  have hnot : ∀ k, k < wS.heap.size → Value.ownBlock (.slice oa L.length oc) ≠ some k := fun k hk e => by have := (hlt k e).1; omega
  have hb3 : Blk w3 bo 39 #[.slice oa L.length oc] := hkeep _ _ h1 (hnot _ hbo)
  have hsz : W.heap.size ≤ w3.heap.size := hg.size
  have hne : ∀ k, k ≠ bo → ∀ u, (w3.setCell ⟨bo, 0, none⟩ u).heap[k]? = w3.heap[k]? := fun k hk u => Below.heap_setCell _ _ _ _ hk
  refine ⟨a5, c5, w3, hrun, hb3, ⟨by rw [World.size_setCell]; exact hsz, fun k o hk hko hc => ?_⟩, ⟨by rw [World.size_setCell]; exact hsz, fun k o hk hko hc => ?_, fun _ => ?_⟩, ⟨?_, ⟨_, hb3.set 0 _, ?_⟩, ?_, by rw [World.size_setCell]; exact Nat.le_trans h.size hsz⟩⟩
  · refine (hne k (by omega) _).trans (hkeep _ _ hko (fun e => ?_))
    obtain ⟨cs, t, fz, h2⟩ := hcells k e
    rw [h2] at hko
    injection hko with hko
    subst hko
    cases hc
  · exact (hne k (by omega) _).trans (hkeep _ _ hko (hnot _ (by omega)))
  · exact ⟨_, (hb3.set 0 _).cell 0, fun k hk => by rw [World.size_setCell]; exact (ho.lt k hk).2⟩
  · exact fun k o hk hko hc => (hne k (by omega) _).trans (hkeep _ _ (h.tk k o hk hko hc) (hnot _ (by omega)))
  · exact ho.keep (fun k hk => hne k (by omega) _) (by rw [World.size_setCell]; exact Nat.le_refl _)
  · refine Below.setCell ?_ hw _
    exact h.below.grown hg h.below.size (fun k hk => by have := (hlt k hk).1; omega)
end Go.Proofs.YtnbmbcjnncbaiaaGreatDoor
