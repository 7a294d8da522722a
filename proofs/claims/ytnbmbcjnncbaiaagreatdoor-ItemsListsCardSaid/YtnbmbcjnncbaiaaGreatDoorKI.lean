/-
  ARGUMENTS OPENED: a list of items.
-/
import Derived.Test.YtnbmbcjnncbaiaaGreatDoorKP
import Derived.Test.YtnbmbcjnncbaiaaGreatDoorJ2
namespace Go.Proofs.YtnbmbcjnncbaiaaGreatDoor
open Go.RowKit Go.ChangeShapes Go.WideShapes Go.ChangeAt Go.Deep Go.Joins

variable {H : Type} {enc : TypeId × Value → H} {W : World}
theorem trod_struct4 {P : Program} {w : World} {base : Nat} {spare : Nat → Bool} {held : Bool} {t : TypeId} {f0 f1 f2 f3 : Field} {fuel : Nat} {cs : List Value} {x : DataW H × List MemPlace} (ht : P.underlying t = some (.struct #[f0, f1, f2, f3])) (h : DataW.trod enc P w base spare held fuel t cs = some x) :
    ∃ y0 y1 y2 y3 n, cs.length = P.cellsOf t ∧ DataW.trod enc P w base spare held n f0.type ((cs.drop f0.offset).take (P.cellsOf f0.type)) = some y0 ∧
      DataW.trod enc P w base spare held n f1.type ((cs.drop f1.offset).take (P.cellsOf f1.type)) = some y1 ∧
      DataW.trod enc P w base spare held n f2.type ((cs.drop f2.offset).take (P.cellsOf f2.type)) = some y2 ∧
      DataW.trod enc P w base spare held n f3.type ((cs.drop f3.offset).take (P.cellsOf f3.type)) = some y3 := by
  obtain ⟨xs, n, _, _, hl, hlen, hf⟩ := DataW.trod_struct ht h
  match xs, hlen with
  | [y0, y1, y2, y3], _ => exact ⟨y0, y1, y2, y3, n, hl, by simpa using hf 0 f0 rfl, by simpa using hf 1 f1 rfl, by simpa using hf 2 f2 rfl, by simpa using hf 3 f3 rfl⟩
theorem list5 {α : Type} {l : List α} (h : l.length = 5) : ∃ a b c d e, l = [a, b, c, d, e] := by
  match l, h with
  | [a, b, c, d, e], _ => exact ⟨a, b, c, d, e, rfl⟩
theorem c_item : Tryz.prog.cellsOf 29 = 5 := by kernel_rfl
theorem c_bytesI : Tryz.prog.cellsOf 22 = 1 := by kernel_rfl
theorem c_boolI : Tryz.prog.cellsOf 4 = 1 := by kernel_rfl
set_option maxRecDepth 100000 in
theorem open_bytesI {fuel : Nat} {v : Value} {y : DataW H × List MemPlace} (h : DataW.trod enc Tryz.prog W 0 (fun _ => true) true fuel 22 [v] = some y) : ∃ l, SlR byteR W (fun _ => True) v l := by
  obtain ⟨v', l, e, hs, _⟩ := open_ones (α := UInt8) (f := fun n => .int .u8 n.toNat) (h1 := fun x u hu => by simp at hu; subst hu; rfl) (Q := fun _ => True) Tryz.underlying22 c_byteD (fun n v y ht => by
    obtain ⟨k, q, _, wf⟩ := DataW.trod_int Tryz.underlying5 ht
    obtain rfl := List.cons.inj q |>.1
    have hb := bounds_u8 wf
    refine ⟨UInt8.ofNat k.toNat, ?_, trivial⟩
    have e : ((UInt8.ofNat k.toNat).toNat : Int) = k := by
      rw [UInt8.toNat_ofNat']
      omega
    rw [e]) h
  obtain rfl := List.cons.inj e |>.1
  exact ⟨l, hs⟩
instance : Inhabited It := ⟨⟨0, [], [], [], false⟩⟩
/-- What an item that came in is good for. -/
def itFits (x : It) : Prop := (∀ y ∈ x.args, fits64 y.n) ∧ x.op.length ≤ maxLen
theorem choose_ltI {n : Nat} {α : Type} [Inhabited α] {P : Nat → α → Prop} (h : ∀ i, i < n → ∃ x, P i x) : ∃ f : Nat → α, ∀ i, i < n → P i (f i) :=
  ⟨fun i => if hi : i < n then (h i hi).choose else default, fun i hi => by simp only [hi, dif_pos]; exact (h i hi).choose_spec⟩
set_option maxRecDepth 100000 in
theorem open_items_arg {b0 : Nat} {v : Value} {d : DataW H} {p : List MemPlace} (hv : Value.okWide Tryz.prog W .any b0 39 v) (h : DataW.Trod enc Tryz.prog W 0 (fun _ => true) true 39 v d p) :
    ∃ l, SlR itR W (fun _ => True) v l ∧ ∀ x ∈ l, itFits x := by
  have hcl : v.cells.toList = [v] := by
    obtain ⟨a, n, c, rfl⟩ := okWide_slice Tryz.underlying39 hv
    rfl
  obtain ⟨fuel, hf⟩ := h
  rw [hcl] at hf
  rcases open_slice Tryz.underlying39 hf with ⟨hv, _⟩ | ⟨a, len, cap, m, n, D, Pl, hv, _, hl, hm, hmm, _, hi⟩
  · obtain rfl := List.cons.inj hv |>.1
    exact ⟨[], SlR.nil _ _ _, by simp⟩
  · obtain rfl := List.cons.inj hv |>.1
    have key : ∀ i, i < len → ∃ x : It, (∃ ra rc va vc, W.cell? (a.add (i * 5)) = some (.int .i64 x.k) ∧ W.cell? (a.add (i * 5 + 1)) = some (.slice ra x.raw.length rc) ∧ W.cell? (a.add (i * 5 + 2)) = some (.string ⟨x.op.toArray⟩) ∧ W.cell? (a.add (i * 5 + 3)) = some (.slice va x.args.length vc) ∧ W.cell? (a.add (i * 5 + 4)) = some (.bool x.al) ∧ SlR byteR W (fun _ => True) (.slice ra x.raw.length rc) x.raw ∧ SlR opdR W (fun _ => True) (.slice va x.args.length vc) x.args) ∧ itFits x := fun i hil => by
      obtain ⟨cs, hc, ht⟩ := hi i (by rw [hmm, if_pos rfl]; omega)
      rw [c_item] at hc
      obtain ⟨_, hlen, hat⟩ := World.cells?_some hc
      obtain ⟨y0, y1, y2, y3, n', _, h0, h1, h2, h3⟩ := trod_struct4 Tryz.underlying29 ht
      obtain ⟨c0, c1, c2, c3, c4, rfl⟩ := list5 hlen
      have e0 := hat 0 (by omega)
      have e1 := hat 1 (by omega)
      have e2 := hat 2 (by omega)
      have e3 := hat 3 (by omega)
      have e4 := hat 4 (by omega)
      rw [add_add] at e0 e1 e2 e3 e4
      dsimp only at h0 h1 h2 h3
      rw [c_int] at h0
      rw [c_bytesI] at h1
      rw [c_ins] at h2
      rw [c_boolI] at h3
      obtain ⟨k, q0, _, _⟩ := DataW.trod_int Tryz.underlying3 (fuel := n') (cs := [c0]) h0
      obtain rfl := List.cons.inj q0 |>.1
      obtain ⟨R, hR⟩ := open_bytesI (fuel := n') (v := c1) h1
      obtain ⟨z0, z1, n2, _, _, g0, g1⟩ := trod_struct2 Tryz.underlying27 (cs := [c2, c3]) h2
      dsimp only at g0 g1
      rw [c_string] at g0
      rw [c_opds] at g1
      obtain ⟨s, q2, _, hs⟩ := DataW.trod_string Tryz.underlying9 (fuel := n2) (cs := [c2]) g0
      obtain rfl := List.cons.inj q2 |>.1
      obtain ⟨l, hl, hf⟩ := open_opds (fuel := n2) (v := c3) g1
      obtain ⟨bb, q4, _⟩ := DataW.trod_bool Tryz.underlying4 (fuel := n') (cs := [c4]) h3
      obtain rfl := List.cons.inj q4 |>.1
      obtain ⟨ra, rc, rfl⟩ : ∃ a c, c1 = .slice a R.length c := by obtain ⟨a, c, e, _⟩ := hR; exact ⟨a, c, e⟩
      obtain ⟨va, vc, rfl⟩ : ∃ a c, c3 = .slice a l.length c := by obtain ⟨a, c, e, _⟩ := hl; exact ⟨a, c, e⟩
      exact ⟨⟨k, R, s.data.toList, l, bb⟩, ⟨ra, rc, va, vc, e0, e1, e2, e3, e4, hR, hl⟩, hf, by simpa using hs⟩
    obtain ⟨f, hf⟩ := choose_ltI key
    have hg : ∀ i x, ((List.range len).map f)[i]? = some x → i < len ∧ f i = x := fun i x hx => by
      rw [List.getElem?_map, Option.map_eq_some_iff] at hx
      obtain ⟨j, hj, rfl⟩ := hx
      obtain ⟨h1, h2⟩ := List.getElem?_eq_some_iff.1 hj
      simp at h1 h2
      subst h2
      exact ⟨h1, rfl⟩
    refine ⟨(List.range len).map f, ⟨some a, cap, by simp, by simpa using hl, hm, fun i x hx => ?_⟩, fun x hx => ?_⟩
    · obtain ⟨hil, rfl⟩ := hg i x hx
      obtain ⟨⟨ra, rc, va, vc, h0, h1, h2, h3, h4, h5, h6⟩, _⟩ := hf i hil
      obtain ⟨b, o, spot⟩ := a
      have hspot : spot = none := by
        obtain ⟨⟨_, _, _, _, h00, _⟩, _⟩ := hf 0 (by omega)
        simpa [Addr.add] using World.cell?_spot h00
      subst hspot
      rw [add_at] at h0 h1 h2 h3 h4
      refine ⟨b, o, (itCs (f i) ra rc va vc).toList, rfl, trivial, World.block_lt_of_cell? W _ h0, fun j u hu => ?_, ra, rc, va, vc, rfl, h5, h6⟩
      show W.cell? ⟨b, o + i * 5 + j, none⟩ = _
      rw [Nat.add_assoc]
      match j, hu with
      | 0, hu => simp [itCs] at hu; subst hu; exact h0
      | 1, hu => simp [itCs] at hu; subst hu; exact h1
      | 2, hu => simp [itCs] at hu; subst hu; exact h2
      | 3, hu => simp [itCs] at hu; subst hu; exact h3
      | 4, hu => simp [itCs] at hu; subst hu; exact h4
    · obtain ⟨i, hi, rfl⟩ := List.mem_map.1 hx
      exact (hf i (by simpa using hi)).2
end Go.Proofs.YtnbmbcjnncbaiaaGreatDoor
