/-
  Lists of instructions in memory; canon.All. Conditions: the list's length.
-/
import Derived.Test.YtkkjoghfdmmpaaaDoorChecks3
namespace Go.Proofs.YtkkjoghfdmmpaaaDoor
open Go.RowKit

theorem OpdOwn.old {w : World} {q : Blocks} {v : Value} {l : List Opd} (h : OpdOwn w q v l) : OpdOwn w (fun k => q k ∧ k < w.heap.size) v l := by
  obtain ⟨a, cap, e, h1, h2, h3⟩ := h
  refine ⟨a, cap, e, h1, h2, fun i x hx => ?_⟩
  obtain ⟨b, o, ea, hq, hb, c0, c1, c2, f⟩ := h3 i x hx
  exact ⟨b, o, ea, ⟨hq, hb⟩, hb, c0, c1, c2, f⟩

/-- An instruction in two cells. -/
def insSR : Rep Ins where
  size := 2
  rel := fun w p cs x => ∃ v, cs = [.string x.op, v] ∧ SlR opdR w p v x.args
  len := fun ⟨_, e, _⟩ => by subst e; rfl
  keep := fun hk ⟨v, e, h⟩ => ⟨v, e, h.keep hk⟩
  mono := fun hp ⟨v, e, h⟩ => ⟨v, e, h.mono hp⟩
  old := fun ⟨v, e, h⟩ => ⟨v, e, h.old⟩
  one := fun ⟨v, e, a, cap, hv, _⟩ u hu => by subst e; subst hv; simp at hu; rcases hu with rfl | rfl <;> rfl

/-- An instruction whose operands lie in blocks of its own, from lo on, below hi. -/
structure InsO where
  x : Ins
  lo : Nat
  hi : Nat
def insOR : Rep InsO where
  size := 2
  rel := fun w p cs z => ∃ v, cs = [.string z.x.op, v] ∧ OpdOwn w (fun b => p b ∧ z.lo ≤ b ∧ b < z.hi) v z.x.args
  len := fun ⟨_, e, _⟩ => by subst e; rfl
  keep := fun hk ⟨v, e, h⟩ => ⟨v, e, h.keep (hk.mono fun _ hb => hb.1)⟩
  mono := fun hp ⟨v, e, h⟩ => ⟨v, e, h.mono fun _ hb => ⟨hp _ hb.1, hb.2⟩⟩
  old := fun ⟨v, e, h⟩ => ⟨v, e, h.old.mono fun _ hb => ⟨⟨hb.1.1, hb.2⟩, hb.1.2⟩⟩
  one := fun ⟨v, e, a, cap, hv, _⟩ u hu => by subst e; subst hv; simp at hu; rcases hu with rfl | rfl <;> rfl

theorem elIns : ElT Tryd.prog 44 39 insOR.size 40 := ElT.mk' (z := .agg #[.string ⟨#[]⟩, .slice none 0 0]) Tryd.underlying44 (by kernel_rfl) rfl (by decide)

/-- The cells of an instruction in a list. -/
theorem SlR.ins {w : World} {p : Blocks} {v : Value} {l : List Ins} (h : SlR insSR w p v l) : ∃ a cap, v = .slice a l.length cap ∧ l.length ≤ cap ∧ cap ≤ 9223372036854775807 ∧
    ∀ i x, l[i]? = some x → ∃ b o va, a = some ⟨b, o, none⟩ ∧ p b ∧ w.cell? ⟨b, o + i * 2, none⟩ = some (.string x.op) ∧ w.cell? ⟨b, o + i * 2 + 1, none⟩ = some va ∧ SlR opdR w p va x.args := by
  obtain ⟨a, cap, e, h1, h2, h3⟩ := h
  refine ⟨a, cap, e, h1, by simpa [maxLen] using h2, fun i x hx => ?_⟩
  obtain ⟨b, o, cs, ea, hb, hbs, hc, va, hcs, hr⟩ := h3 i x hx
  subst hcs
  exact ⟨b, o, va, ea, hb, hc 0 _ rfl, hc 1 _ rfl, hr⟩

/-- The ranges stand one behind the other from B on. -/
def Ranged (B H : Nat) : List InsO → Prop
  | [] => B ≤ H
  | z :: zs => B ≤ z.lo ∧ z.lo ≤ z.hi ∧ Ranged z.hi H zs
theorem Ranged.snoc {z : InsO} {H' : Nat} : ∀ {zs : List InsO} {B H : Nat}, Ranged B H zs → H ≤ z.lo → z.lo ≤ z.hi → z.hi ≤ H' → Ranged B H' (zs ++ [z])
  | [], _, _, h, h1, h2, h3 => ⟨Nat.le_trans h h1, h2, h3⟩
  | _ :: _, _, _, ⟨a, b, c⟩, h1, h2, h3 => ⟨a, b, Ranged.snoc c h1 h2 h3⟩
theorem Ranged.le : ∀ {zs : List InsO} {B H : Nat}, Ranged B H zs → B ≤ H
  | [], _, _, h => h
  | _ :: zs, _, _, ⟨a, b, c⟩ => Nat.le_trans a (Nat.le_trans b (Ranged.le (zs := zs) c))
theorem Ranged.more : ∀ {zs : List InsO} {B H H' : Nat}, Ranged B H zs → H ≤ H' → Ranged B H' zs
  | [], _, _, _, h, h1 => Nat.le_trans h h1
  | _ :: _, _, _, _, ⟨a, b, c⟩, h1 => ⟨a, b, Ranged.more c h1⟩
theorem Ranged.mem : ∀ {zs : List InsO} {B H : Nat}, Ranged B H zs → ∀ z ∈ zs, B ≤ z.lo ∧ z.lo ≤ z.hi ∧ z.hi ≤ H
  | y :: ys, _, _, ⟨a, b, c⟩, z, hz => by
    rcases List.mem_cons.1 hz with rfl | hz
    · exact ⟨a, b, Ranged.le c⟩
    · have := Ranged.mem c z hz
      exact ⟨by omega, this.2.1, this.2.2⟩
theorem Ranged.apart : ∀ {zs : List InsO} {B H : Nat}, Ranged B H zs → ∀ (i j : Nat) (x y : InsO), zs[i]? = some x → zs[j]? = some y → i < j → x.hi ≤ y.lo
  | _ :: ys, _, _, ⟨a, b, c⟩, 0, j + 1, x, y, hx, hy, _ => by
    simp at hx
    subst hx
    exact (Ranged.mem c y (List.mem_of_getElem? (by simpa using hy))).1
  | _ :: ys, _, _, ⟨a, b, c⟩, i + 1, j + 1, x, y, hx, hy, h => Ranged.apart c i j x y (by simpa using hx) (by simpa using hy) (by omega)

/-- What canon.All has gathered: block g (of v) is none of the operands' blocks. -/
structure AllH (B : Nat) (v : Value) (zs : List InsO) (w : World) : Prop where
  own : Own insOR w B 39 (fun k => ∃ z ∈ zs, z.lo ≤ k ∧ k < z.hi) v zs
  rng : Ranged B w.heap.size zs
  row : ∀ k, v.ownBlock = some k → ∀ z ∈ zs, ¬ (z.lo ≤ k ∧ k < z.hi)
theorem AllH.nil (w : World) : AllH w.heap.size (.slice none 0 0) [] w := ⟨Own.nil _ _ _ _ _, Nat.le_refl _, fun k h => by cases h⟩
theorem AllH.next {B : Nat} {v : Value} {zs : List InsO} {w w' : World} (h : AllH B v zs w) (hb : Below w.heap.size w w') : AllH B v zs w' := by
  refine ⟨h.own.keep (Keep.of_below hb fun k hk => ?_), h.rng.more hb.size, h.row⟩
  rcases hk with ⟨z, hz, _, h2⟩ | hk
  · exact Nat.lt_of_lt_of_le h2 (h.rng.mem z hz).2.2
  · exact (h.own.lt k hk).2

theorem Els.ranged {w : World} {p : Blocks} (ZS : List InsO) : ∀ {zs : List InsO} {cs : List Value}, (∀ z ∈ zs, z ∈ ZS) → Els insOR w p cs zs → Els insOR w (fun k => ∃ z ∈ ZS, z.lo ≤ k ∧ k < z.hi) cs zs
  | [], _, _, h => h
  | z :: _, _, hm, ⟨c1, c2, e, ⟨v, hv, ho⟩, h2⟩ => ⟨c1, c2, e, ⟨v, hv, ho.mono fun _ hb => ⟨⟨z, hm z (by simp), hb.2⟩, hb.2⟩⟩, Els.ranged ZS (fun y hy => hm y (by simp [hy])) h2⟩

theorem AllH.push {B lo : Nat} {v v2 : Value} {zs : List InsO} {w w2 : World} {y : Ins} (h : AllH B v zs w) (hb : Below w.heap.size w w2) (hlo : w.heap.size ≤ lo) (hlo2 : lo ≤ w2.heap.size) (ho : OpdOwn w2 (fun b => lo ≤ b) v2 y.args) (hn : zs.length ≤ 1000) (ty : TypeId) :
    ∃ a c w', (Builtin.append_ #[44, 44] ty #[v, .slice (some ⟨w2.heap.size, 0, none⟩) 1 1]).run Tryd.prog (w2.alloc (.cells #[.string y.op, v2] 39)) = .ok (.slice a (zs.length + 1) c) w' ∧
      AllH B (.slice a (zs.length + 1) c) (zs ++ [⟨y, lo, w2.heap.size⟩]) w' ∧ Below B w2 w' := by
  have h2 := h.next hb
  have hrel : insOR.rel w2 (fun b => lo ≤ b ∧ b < w2.heap.size) [.string y.op, v2] ⟨y, lo, w2.heap.size⟩ := ⟨v2, rfl, ho.old.mono fun _ hk => ⟨hk, hk⟩⟩
  have hB2 : B ≤ w2.heap.size := Ranged.le h2.rng
  have hown : Own insOR (w2.alloc (.cells #[.string y.op, v2] 39)) B 39 (fun k => ∃ z ∈ zs, z.lo ≤ k ∧ k < z.hi) v zs := (h2.next (below_alloc w2 _)).own
  obtain ⟨v', w', hrun, hap, hg, hat⟩ := run_append_R (P := Tryd.prog) (R := insOR) (w := w2.alloc (.cells #[.string y.op, v2] 39)) B 44 ty 39 40 elIns (q := fun k => (lo ≤ k ∧ k < w2.heap.size) ∨ k = w2.heap.size)
    (vx := .slice (some ⟨w2.heap.size, 0, none⟩) 1 1) (ys := [⟨y, lo, w2.heap.size⟩]) hown (slR_one (R := insOR) hrel _)
    (fun k ⟨z, hz, hk⟩ e => h.row k e.symm z hz hk)
    (fun k hk e => by
      have := (h.own.lt k e.symm).2
      have := hb.size
      rcases hk with hk | hk <;> omega) (by simp; omega) (by simp; omega) (by simp; omega)
  obtain ⟨a, c, rfl⟩ := hap.form
  rw [List.length_append, List.length_singleton] at hrun
  have hrow : ∀ k, Value.ownBlock (.slice a (zs ++ [(⟨y, lo, w2.heap.size⟩ : InsO)]).length c) = some k → ∀ z ∈ zs ++ [⟨y, lo, w2.heap.size⟩], ¬ (z.lo ≤ k ∧ k < z.hi) := fun k hk z hz hh => by
    rcases hat with e | e
    · rw [e] at hk
      rcases List.mem_append.1 hz with hz | hz
      · exact h.row k hk z hz hh
      · simp at hz
        subst hz
        have := (h.own.lt k hk).2
        dsimp only at hh
        omega
    · rw [e] at hk
      simp at hk
      subst hk
      rcases List.mem_append.1 hz with hz | hz
      · have := (h2.rng.mem z hz).2.2
        omega
      · simp at hz
        subst hz
        dsimp only at hh
        omega
  have hBw : Below B w2 w' := ((Below.refl _ _).alloc hB2 _).grown hg (by simp; omega) (fun k hk => (h.own.lt k hk).1)
  refine ⟨a, c, w', hrun, ⟨?_, ?_, ?_⟩, hBw⟩
  · obtain ⟨cs, hr, he⟩ := hap
    have he2 := Els.ranged (zs ++ [⟨y, lo, w2.heap.size⟩]) (fun _ h => h) he
    have : (zs ++ [(⟨y, lo, w2.heap.size⟩ : InsO)]).length = zs.length + 1 := by simp
    rw [← this]
    exact ⟨cs, hr, he2⟩
  · exact Ranged.snoc (h.rng) hlo hlo2 hBw.size
  · have : (zs ++ [(⟨y, lo, w2.heap.size⟩ : InsO)]).length = zs.length + 1 := by simp
    rw [this] at hrow
    exact hrow
theorem wpList_push_ins {ops : Array Oper} {rest : List Oper} {o : Oper} {a : Act} {w w2 : World} {Q : Exit → Act → World → Prop} {B lo : Nat} {v v2 : Value} {zs : List InsO} {y : Ins} (hgd : o.guard = none) (s x : Operand)
    (ho : o.op = .call { callee := .builtin .append, args := #[s, x], argTypes := #[44, 44] })
    (hs : a.eval s = v) (hxe : a.eval x = .slice (some ⟨w2.heap.size, 0, none⟩) 1 1) (h : AllH B v zs w) (hb : Below w.heap.size w w2) (hlo : w.heap.size ≤ lo) (hlo2 : lo ≤ w2.heap.size) (hop : OpdOwn w2 (fun b => lo ≤ b) v2 y.args) (hn : zs.length ≤ 1000)
    (hk : ∀ a' c' w', AllH B (.slice a' (zs.length + 1) c') (zs ++ [⟨y, lo, w2.heap.size⟩]) w' → Below B w2 w' → wpList Tryd.prog ops Q rest (a.put o.dst (.slice a' (zs.length + 1) c')) w') :
    wpList Tryd.prog ops Q (o :: rest) a (w2.alloc (.cells #[.string y.op, v2] 39)) :=
  wpList_plain hgd fun K hK => by
    obtain ⟨a', c', w', hrun, h2, h3⟩ := h.push hb hlo hlo2 hop hn o.type
    unfold Oper.wp execOp
    simp only [ho, resolve, invoke, builtin, Sem.run_bind, Sem.run_pure, Result.andThen_ok, List.map_toArray, List.map_cons, List.map_nil, hs, hxe, hrun]
    exact hK _ _ (hk a' c' w' h2 h3)

set_option maxHeartbeats 2000000 in
theorem All_any (p : Blocks) (v : Value) (l : List Ins) (w : World) (h : SlR insSR w p v l) (hT : Spc w) (hl : l.length ≤ 1000) (hn : ∀ x ∈ l, x.args.length ≤ 1000000) (hf : ∀ x ∈ l, ∀ y ∈ x.args, fits64 y.n) :
    Calls Tryd.prog 31 #[v] w fun e w' => (∃ v' zs, e = .returned v' ∧ zs.map InsO.x = l.map canonOf ∧ AllH w.heap.size v' zs w') ∧ Below w.heap.size w w' := by
  obtain ⟨a, c, rfl, hlc, hcm, _⟩ := h.ins
  have H := Lib.hid h
  have HT := Lib.hid hT
  have HL := Lib.hid hl
  have HN := Lib.hid hn
  have HF := Lib.hid hf
  clear h hT hl hn hf
  go_enter Tryd.func31, Tryd.ntmps31
  go_wp2
  go_loopw [3, 8] (fun v i wr => ∃ (k : Nat) (zs : List InsO), k ≤ l.length ∧ i = .int .i64 k ∧ zs.map InsO.x = (l.take k).map canonOf ∧ AllH w.heap.size v zs wr ∧ Below w.heap.size w wr) (fun _ i _ => l.length - (intOf i).toNat)
  case atStart => exact ⟨0, [], Nat.zero_le _, rfl, rfl, AllH.nil w, Below.refl _ _⟩
  case round =>
    obtain ⟨k, zs, hk, rfl, hz, ha, hb⟩ := hrel
    have HA := Lib.hid ha
    have HB := Lib.hid hb
    have HZ := Lib.hid hz
    obtain ⟨oa, oc, rfl⟩ := ha.own.form
    have hzl : zs.length = k := by
      have := congrArg List.length hz
      simp at this
      omega
    clear ha hb hz
    by_cases hlt : k < l.length
    · obtain ⟨ad, cd, hv, _, _, g1⟩ := (H.out.below HB.out).ins
      obtain ⟨rfl, _, rfl⟩ : a = ad ∧ l.length = l.length ∧ c = cd := by injection hv with h1 h2 h3; exact ⟨h1, h2, h3⟩
      obtain ⟨b, o, va, rfl, _, d0, d1, hs⟩ := g1 k l[k] (List.getElem?_eq_getElem hlt)
      have HST : Hid ((l.take (k + 1)).map canonOf = (l.take k).map canonOf ++ [canonOf l[k]]) := by
        rw [List.take_succ_eq_append_getElem hlt, List.map_append]; exact Lib.hid rfl
      have hnk := HN.out l[k] (List.getElem_mem hlt)
      have hfk := HF.out l[k] (List.getElem_mem hlt)
      have HZL := Lib.hid (show zs.length ≤ 1000 by have := HL.out; omega)
      clear g1 hv hzl
      generalize l[k] = x at *
      obtain ⟨xa, xc, rfl, _⟩ := hs.opd
      have HOF := Lib.hid (Of_any p x (.slice xa x.args.length xc) (wr.alloc (.cells #[.string x.op, .slice xa x.args.length xc] 39)) (hs.alloc _) ((HT.out.below HB.out).below (below_alloc _ _)) hnk hfk)
      have HAB : Hid (Below wr.heap.size wr (wr.alloc (.cells #[.string x.op, .slice xa x.args.length xc] 39))) := below_alloc _ _
      clear hs hnk hfk
      go_wp2_with (first | (go_at_call 26; refine HOF.out.mono ?_; rintro e w2 ⟨v2, rfl, ho2, hb2⟩; have HO2 := Lib.hid ho2; have HB2 := Lib.hid (HAB.out.trans (hb2.mono HAB.out.size)); have HSZ := Lib.hid hb2.size; obtain ⟨a2, c2, rfl, _⟩ := ho2; clear hb2)
                         | (at_builtin; refine wpList_push_ins (y := canonOf x) rfl (.tmp 12) (.tmp 15) rfl rfl rfl HA.out HB2.out HAB.out.size HSZ.out HO2.out HZL.out ?_; intro a' c' w' h3 hb3; have H3 := Lib.hid h3; have HB3 := Lib.hid hb3; clear h3 hb3))
      go_roundw
      case rel => exact ⟨k + 1, _, by omega, by go_num, by rw [HST.out, ← HZ.out]; simp, H3.out, (HB.out.trans (HB2.out.mono HB.out.size)).trans HB3.out⟩
      case measure => simp [intOf]; omega
    · obtain rfl : k = l.length := by omega
      rw [List.take_length] at HZ
      go_wp2
      go_ret
      exact ⟨⟨_, zs, rfl, HZ.out, HA.out⟩, HB.out⟩
end Go.Proofs.YtkkjoghfdmmpaaaDoor
