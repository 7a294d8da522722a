/-
  THE STATEMENT CanonLists: the walk of the law. Conditions: none.
-/
import Derived.Test.YtkkjoghfdmmpaaaDoorLists1
import Derived.Test.YtkkjoghfdmmpaaaDoorRef08
import Derived.Test.YtkkjoghfdmmpaaaDoorMakes1
import Derived.Test.YtkkjoghfdmmpaaaDoorTwice3
namespace Go.Proofs.YtkkjoghfdmmpaaaDoor
open Go.RowKit

theorem elInsS : ElT Tryd.prog 44 39 insSR.size 40 := ElT.mk' (z := .agg #[.string ⟨#[]⟩, .slice none 0 0]) Tryd.underlying44 (by kernel_rfl) rfl (by decide)
def allShort (l : List Ins) : Bool := l.all short8
theorem below_rw {B : Nat} {a w : World} (h : Below B a w) : Below B a w.drew := ⟨h.os, h.tape, h.output, h.size, h.block⟩

/-- What stands while the copies are gathered. -/
structure ClH (w0 : World) (p : Blocks) (l : List Ins) (va vo : Value) (os : List Ins) (q : Blocks) (w : World) : Prop where
  below : Below w0.heap.size w0 w
  spc0 : Spc w0
  sl0 : SlR insSR w0 p va l
  own : Own insSR w w0.heap.size 39 q vo os
  old : ∀ k, q k → w0.heap.size ≤ k ∧ k < w.heap.size
  row : ∀ k, vo.ownBlock = some k → ¬ q k


theorem ClH.next {w0 : World} {p q : Blocks} {l os : List Ins} {va vo : Value} {w w' : World} (h : ClH w0 p l va vo os q w) (hb : Below w.heap.size w w') : ClH w0 p l va vo os q w' :=
  ⟨h.below.trans (hb.mono h.below.size), h.spc0, h.sl0, h.own.keep (Keep.of_below hb fun k hk => by rcases hk with hk | hk; exact (h.old k hk).2; exact (h.own.lt k hk).2), fun k hk => ⟨(h.old k hk).1, Nat.lt_of_lt_of_le (h.old k hk).2 hb.size⟩, h.row⟩
theorem ClH.push {w0 : World} {p q : Blocks} {l os : List Ins} {va vo v3 : Value} {w w3 : World} {x : Ins} (h : ClH w0 p l va vo os q w) (hb : Below w.heap.size w w3) (hx : SlR opdR w3 (fun k => w.heap.size ≤ k) v3 x.args) (hn : os.length ≤ 1000) (ty : TypeId) :
    ∃ a c w', (Builtin.append_ #[44, 44] ty #[vo, .slice (some ⟨w3.heap.size, 0, none⟩) 1 1]).run Tryd.prog (w3.alloc (.cells #[.string x.op, v3] 39)) = .ok (.slice a (os.length + 1) c) w' ∧
      ClH w0 p l va (.slice a (os.length + 1) c) (os ++ [x]) (fun k => q k ∨ (w.heap.size ≤ k ∧ k ≤ w3.heap.size)) w' ∧ (w3.alloc (.cells #[.string x.op, v3] 39)).grownBy w' vo.ownBlock := by
  have h3 := h.next hb
  have h4 := h3.next (below_alloc w3 (.cells #[.string x.op, v3] 39))
  have hrel : insSR.rel w3 (fun k => w.heap.size ≤ k ∧ k < w3.heap.size) [.string x.op, v3] x := ⟨v3, rfl, hx.old⟩
  have hB3 := h3.below.size
  obtain ⟨v', w', hrun, hap, hg, hat⟩ := run_append_R (P := Tryd.prog) (R := insSR) (w := w3.alloc (.cells #[.string x.op, v3] 39)) w0.heap.size 44 ty 39 40 elInsS
    (vx := .slice (some ⟨w3.heap.size, 0, none⟩) 1 1) (ys := [x]) h4.own (slR_one (R := insSR) hrel _)
    (fun k hk e => h.row k e.symm hk)
    (fun k hk e => by
      have := (h.own.lt k e.symm).2
      have := hb.size
      rcases hk with hk | hk <;> omega) (by simp; omega) (by simp; omega) (by simp; omega)
  have hap2 := hap.mono (q := fun k => q k ∨ (w.heap.size ≤ k ∧ k ≤ w3.heap.size)) (fun k hk => by
    have := hb.size
    rcases hk with hk | hk | hk
    · exact .inl hk
    · exact .inr ⟨hk.1, Nat.le_of_lt hk.2⟩
    · exact .inr (by omega))
  obtain ⟨a, c, rfl⟩ := hap2.form
  have hl : (os ++ [x]).length = os.length + 1 := by simp
  rw [hl] at hrun hap2 hat
  have hBw : Below w0.heap.size w3 w' := ((Below.refl _ _).alloc hB3 _).grown hg (by simp; omega) (fun k hk => (h.own.lt k hk).1)
  have hsz : w3.heap.size + 1 ≤ w'.heap.size := by have := hg.4; simpa using this
  refine ⟨a, c, w', hrun, ⟨h3.below.trans hBw, h.spc0, h.sl0, hap2, fun k hk => ?_, fun k hk hq => ?_⟩, hg⟩
  · rcases hk with hk | hk
    · have := h3.old k hk; exact ⟨this.1, by omega⟩
    · have := h.below.size; exact ⟨by omega, by omega⟩
  · rcases hat with e | e
    · rw [e] at hk
      rcases hq with hq | hq
      · exact h.row k hk hq
      · have := (h.own.lt k hk).2; omega
    · rw [e] at hk
      simp at hk
      rcases hq with hq | hq
      · have := (h3.old k hq).2; omega
      · omega
theorem step_append_empty {ops : Array Oper} {o : Oper} {a : Act} {w : World} {K : Act → World → Prop} {Q : Exit → Act → World → Prop} {E : Prop} (hgd : o.guard = none) (s x : Operand)
    (ho : o.op = .call { callee := .builtin .append, args := #[s, x], argTypes := #[37, 37] }) (p : Blocks) (v : Value) (l : List Opd)
    (hs : a.eval s = .slice (some ⟨w.heap.size, 0, none⟩) 0 0) (hxe : a.eval x = v) (h : SlR opdR w p v l) (hl : l.length ≤ 1000000)
    (hk : ∀ a' c' w', Own opdR w' w.heap.size 47 NoB (.slice a' l.length c') l → Below w.heap.size w w' → K (a.put o.dst (.slice a' l.length c')) w') :
    if Region.wanted o (yielded ops a.tmps) = true then Oper.wp Tryd.prog o a (w.alloc (.cells #[] 47)) K Q else E := by
  have hw : Region.wanted o (yielded ops a.tmps) = true := by simp [Region.wanted, hgd]
  rw [if_pos hw]
  obtain ⟨a', c', w', hrun, h2, h3⟩ := own_of_empty h hl o.type
  unfold Oper.wp execOp
  simp only [ho, resolve, invoke, builtin, Sem.run_bind, Sem.run_pure, Result.andThen_ok, List.map_toArray, List.map_cons, List.map_nil, hs, hxe, hrun]
  exact hk a' c' w' h2 h3
theorem step_push_cl {ops : Array Oper} {o : Oper} {a : Act} {K : Act → World → Prop} {Q : Exit → Act → World → Prop} {E : Prop} {w0 : World} {p q : Blocks} {l os : List Ins} {va vo v3 : Value} {w w3 : World} {x : Ins} (hgd : o.guard = none) (s y : Operand)
    (ho : o.op = .call { callee := .builtin .append, args := #[s, y], argTypes := #[44, 44] })
    (hs : a.eval s = vo) (hxe : a.eval y = .slice (some ⟨w3.heap.size, 0, none⟩) 1 1) (h : ClH w0 p l va vo os q w) (hb : Below w.heap.size w w3) (hx : SlR opdR w3 (fun k => w.heap.size ≤ k) v3 x.args) (hn : os.length ≤ 1000)
    (hk : ∀ a' c' w', ClH w0 p l va (.slice a' (os.length + 1) c') (os ++ [x]) (fun k => q k ∨ (w.heap.size ≤ k ∧ k ≤ w3.heap.size)) w' → (w3.alloc (.cells #[.string x.op, v3] 39)).grownBy w' vo.ownBlock → K (a.put o.dst (.slice a' (os.length + 1) c')) w') :
    if Region.wanted o (yielded ops a.tmps) = true then Oper.wp Tryd.prog o a (w3.alloc (.cells #[.string x.op, v3] 39)) K Q else E := by
  have hw : Region.wanted o (yielded ops a.tmps) = true := by simp [Region.wanted, hgd]
  rw [if_pos hw]
  obtain ⟨a', c', w', hrun, h2, h3⟩ := h.push hb hx hn o.type
  unfold Oper.wp execOp
  simp only [ho, resolve, invoke, builtin, Sem.run_bind, Sem.run_pure, Result.andThen_ok, List.map_toArray, List.map_cons, List.map_nil, hs, hxe, hrun]
  exact hk a' c' w' h2 h3


theorem Ranged.set {z z' : InsO} (hl : z'.lo = z.lo) (hh : z'.hi = z.hi) : ∀ {zs : List InsO} {B H i : Nat}, Ranged B H zs → zs[i]? = some z → Ranged B H (zs.set i z')
  | [], _, _, _, _, h => by simp at h
  | y :: ys, _, _, 0, ⟨a, b, c⟩, h => by
    simp at h
    subst h
    exact ⟨by rw [hl]; exact a, by rw [hl, hh]; exact b, by rw [hh]; exact c⟩
  | y :: ys, _, _, i + 1, ⟨a, b, c⟩, h => ⟨a, b, Ranged.set hl hh c (by simpa using h)⟩
/-- The canonical forms in their row, block g from o on; each one's operands in blocks of its own. -/
structure CH (B g o : Nat) (zs : List InsO) (w : World) : Prop where
  cells : ∀ i z, zs[i]? = some z → ∃ a c, w.cell? ⟨g, o + i * 2, none⟩ = some (.string z.x.op) ∧ w.cell? ⟨g, o + i * 2 + 1, none⟩ = some (.slice a z.x.args.length c) ∧ OpdOwn w (fun b => z.lo ≤ b ∧ b < z.hi) (.slice a z.x.args.length c) z.x.args
  rng : Ranged B w.heap.size zs
  row : ∀ z ∈ zs, ¬ (z.lo ≤ g ∧ g < z.hi)
  hg : g < w.heap.size
theorem CH.next {B g o : Nat} {zs : List InsO} {w w' : World} (h : CH B g o zs w) (hb : Below w.heap.size w w') : CH B g o zs w' :=
  ⟨fun i z hz => by
    obtain ⟨a, c, h1, h2, h3⟩ := h.cells i z hz
    exact ⟨a, c, (hb.cell (p := ⟨g, o + i * 2, none⟩) h.hg).trans h1, (hb.cell (p := ⟨g, o + i * 2 + 1, none⟩) h.hg).trans h2, h3.below hb⟩, h.rng.more hb.size, h.row, Nat.lt_of_lt_of_le h.hg hb.size⟩
theorem AllH.ch {B : Nat} {a : Option Addr} {c n : Nat} {zs : List InsO} {w : World} (h : AllH B (.slice a n c) zs w) (hne : zs ≠ []) : ∃ g o, a = some ⟨g, o, none⟩ ∧ CH B g o zs w := by
  obtain ⟨a', c', e, _, _, g3⟩ := h.own.slR (q := fun _ => True) (fun _ _ => trivial) (fun _ _ => trivial)
  injection e with e1 e2 e3
  subst e1 e3
  cases hz : zs with
  | nil => exact absurd hz hne
  | cons z0 zt =>
    obtain ⟨g, o, cs, rfl, _, hgs, _⟩ := g3 0 z0 (by rw [hz]; rfl)
    rw [← hz]
    refine ⟨g, o, rfl, fun i z hzi => ?_, h.rng, h.row g rfl, hgs⟩
    obtain ⟨b, o', cs, eb, _, _, hc, v, hcs, ho⟩ := g3 i z hzi
    injection eb with eb
    injection eb with eb1 eb2
    subst eb1 eb2 hcs
    have ho2 := ho
    obtain ⟨av, cv, hv, _⟩ := ho2
    subst hv
    exact ⟨av, cv, hc 0 _ rfl, hc 1 _ rfl, ho.mono fun _ hk => hk.2⟩
theorem CH.setN {B g o i b ob c n j : Nat} {zs : List InsO} {z : InsO} {y : Opd} {m : Int} {w : World} (h : CH B g o zs w) (hz : zs[i]? = some z)
    (he : w.cell? ⟨g, o + i * 2 + 1, none⟩ = some (.slice (some ⟨b, ob, none⟩) n c)) (hy : z.x.args[j]? = some y) (hb : z.lo ≤ b ∧ b < z.hi) :
    CH B g o (zs.set i { z with x := ⟨z.x.op, z.x.args.set j { y with n := m }⟩ }) (w.setCell ⟨b, ob + j * 3 + 2, none⟩ (.int .i64 m)) := by
  have hzm := List.mem_of_getElem? hz
  have hgb : g ≠ b := fun e => h.row z hzm (e ▸ hb)
  have hcell : ∀ q, (w.setCell ⟨b, ob + j * 3 + 2, none⟩ (.int .i64 m)).cell? ⟨g, q, none⟩ = w.cell? ⟨g, q, none⟩ := fun q => World.cell?_setCell_other _ _ _ _ (by intro e; injection e with e1; exact hgb e1.symm)
  have hil : i < zs.length := (List.getElem?_eq_some_iff.1 hz).1
  have hset := Ranged.set (z := z) (z' := { z with x := ⟨z.x.op, z.x.args.set j { y with n := m }⟩ }) rfl rfl h.rng hz
  refine ⟨fun i' z' hz' => ?_, by simpa using hset, fun z' hz' => ?_, by simpa using h.hg⟩
  · rw [hcell, hcell]
    by_cases hi : i = i'
    · subst hi
      rw [List.getElem?_set_self hil] at hz'
      obtain rfl := Option.some.inj hz'
      obtain ⟨a, c', h1, h2, h3⟩ := h.cells i z hz
      have e := h2.symm.trans he
      injection e with e
      injection e with e1 e2 e3
      subst e1 e3
      refine ⟨_, c', h1, by simpa using h2, ?_⟩
      have := h3.setN (m := m) hy
      simpa using this
    · rw [List.getElem?_set_ne hi] at hz'
      obtain ⟨a, c', h1, h2, h3⟩ := h.cells i' z' hz'
      refine ⟨a, c', h1, h2, h3.keep (Keep.setCell (fun k hk => ?_) _)⟩
      show k ≠ b
      rintro rfl
      rcases Nat.lt_or_gt_of_ne hi with hlt | hlt
      · have := Ranged.apart h.rng i i' z z' hz hz' hlt; omega
      · have := Ranged.apart h.rng i' i z' z hz' hz hlt; omega
  · rcases List.mem_or_eq_of_mem_set hz' with hm | rfl
    · exact h.row z' hm
    · exact h.row z hzm
/-- What stands in a round: the copies below wB's end, the canonical forms, the instruction of the round in block b8. -/
structure R7H (wB : World) (g o : Nat) (ys : List InsO) (x : Ins) (b8 : Nat) (vx : Value) (w : World) : Prop where
  below : Below wB.heap.size wB w
  ch : CH wB.heap.size g o ys w
  k8 : Blk w b8 39 #[.string x.op, vx]
  h8 : ∀ z ∈ ys, z.hi ≤ b8
theorem R7H.setN {wB : World} {g o i b ob c n j b8 : Nat} {zs : List InsO} {z : InsO} {x : Ins} {vx : Value} {y : Opd} {m : Int} {w : World} (h : R7H wB g o zs x b8 vx w) (hz : zs[i]? = some z)
    (he : w.cell? ⟨g, o + i * 2 + 1, none⟩ = some (.slice (some ⟨b, ob, none⟩) n c)) (hy : z.x.args[j]? = some y) (hb : z.lo ≤ b ∧ b < z.hi) :
    R7H wB g o (zs.set i { z with x := ⟨z.x.op, z.x.args.set j { y with n := m }⟩ }) x b8 vx (w.setCell ⟨b, ob + j * 3 + 2, none⟩ (.int .i64 m)) := by
  have hm := List.mem_of_getElem? hz
  have h1 := (h.ch.rng.mem z hm).1
  have h2 := h.h8 z hm
  exact ⟨h.below.setCell (p := ⟨b, ob + j * 3 + 2, none⟩) (by show wB.heap.size ≤ b; omega) _, h.ch.setN hz he hy hb, h.k8.far (by show b8 ≠ b; omega) _, fun z' hz' => by
    rcases List.mem_or_eq_of_mem_set hz' with hm | rfl
    · exact h.h8 z' hm
    · exact h2⟩
theorem R7H.next {wB : World} {g o : Nat} {ys : List InsO} {x : Ins} {b8 : Nat} {vx : Value} {w w' : World} (h : R7H wB g o ys x b8 vx w) (hb : Below w.heap.size w w') : R7H wB g o ys x b8 vx w' :=
  ⟨h.below.trans (hb.mono h.below.size), h.ch.next hb, h.k8.below hb h.k8.lt, h.h8⟩

set_option maxHeartbeats 4000000 in
theorem CanonLists_any (p : Blocks) (v : Value) (l : List Ins) (w : World) (h : SlR insSR w p v l) (hT : Spc w) (hf : ∀ x ∈ l, ∀ y ∈ x.args, fits64 y.n) :
    Calls Tryd.prog 7 #[v] w fun e w' => e = .returned (.bool true) ∧ Below w.heap.size w w' := by
  obtain ⟨a, c, rfl, hlc, hcm, _⟩ := h.ins
  have HS := Lib.hid h
  have HT := Lib.hid hT
  have HF := Lib.hid hf
  clear h hT hf
  by_cases h30 : l.length ≤ 30
  · go_enter Tryd.func7, Tryd.ntmps7
    go_wp2
    go_loopw [3, 16] (fun vo i wr => ∃ (k : Nat) (q : Blocks), k ≤ l.length ∧ i = .int .i64 k ∧ (∀ x ∈ l.take k, short8 x = true) ∧ ClH w p l (.slice a l.length c) vo (l.take k) q wr) (fun _ i _ => l.length - (intOf i).toNat)
    case atStart => exact ⟨0, NoB, Nat.zero_le _, rfl, by simp, ⟨Below.refl _ _, HT.out, HS.out, Own.nil _ _ _ _ _, fun k h => h.elim, fun k _ h => h⟩⟩
    case round =>
      obtain ⟨k, q, hk, rfl, hsh, hh⟩ := hrel
      have H := Lib.hid hh
      have HSH := Lib.hid hsh
      obtain ⟨oa, oc, rfl⟩ := hh.own.form
      by_cases hlt : k < l.length
      · obtain ⟨ad, cd, hv, _, _, g1⟩ := (hh.sl0.below hh.below).ins
        obtain ⟨rfl, _, rfl⟩ : a = ad ∧ l.length = l.length ∧ c = cd := by injection hv with h1 h2 h3; exact ⟨h1, h2, h3⟩
        obtain ⟨b, o, vx, rfl, _, d0, d1, hs⟩ := g1 k l[k] (List.getElem?_eq_getElem hlt)
        have HTK := Lib.hid (List.take_succ_eq_append_getElem hlt)
        have hol : (l.take k).length = k := by simp; omega
        have HO30 : Hid ((l.take k).length ≤ 1000) := by show _ ≤ _; omega
        have HOL := Lib.hid hol
        clear g1 hv hh hsh hol
        generalize l[k] = x at *
        generalize l.take k = os at *
        obtain ⟨xa, xc, rfl, _⟩ := hs.opd
        have hb0 : Below wr.heap.size wr (wr.alloc (.cells #[.string x.op, .slice xa x.args.length xc] 39)) := below_alloc _ _
        have hshort := short_any p x _ _ (hs.alloc (.cells #[.string x.op, .slice xa x.args.length xc] 39))
        have K5 : Hid (Blk (wr.alloc (.cells #[.string x.op, .slice xa x.args.length xc] 39)) wr.heap.size 39 #[.string x.op, .slice xa x.args.length xc]) := Blk.new _ _ _
        have HX := Lib.hid hs
        have HB0 := Lib.hid hb0
        clear hs hb0
        cases hsx : short8 x
        · rw [hsx] at hshort
          have HSX := Lib.hid hshort
          clear hshort
          go_wp2_with (first | (go_at_call 24; refine HSX.out.mono ?_; rintro e w2 ⟨rfl, hb⟩; have HB2 := Lib.hid ((H.out.below.trans (HB0.out.mono H.out.below.size)).trans (hb.mono (Nat.le_trans H.out.below.size HB0.out.size))); clear hb)
                             | (go_at_call 25; refine (alive8_any _ (H.out.spc0.below HB2.out)).mono ?_; rintro e w3 ⟨rfl, hb⟩; have HB3 := Lib.hid (HB2.out.trans (hb.mono HB2.out.size)); clear hb))
          go_ret
          exact ⟨rfl, HB3.out⟩
        · rw [hsx] at hshort
          have HSX := Lib.hid hshort
          have HSB := Lib.hid hsx
          clear hshort hsx
          go_upto_region 9 with (go_at_call 24; refine HSX.out.mono ?_; rintro e w2 ⟨rfl, hb⟩; have HB2 := Lib.hid hb; have K52 := Lib.hid (K5.out.below hb K5.out.lt); have HX2 := Lib.hid ((HX.out.alloc _).below hb); clear hb)
          have H2 := Lib.hid (H.out.next (HB0.out.trans (HB2.out.mono HB0.out.size)))
          have hn20 : x.args.length ≤ 1000000 := by have := HSB.out; simp [short8] at this; omega
          have HN20 := Lib.hid hn20
          have HXd := Lib.hid HX2.out.drew
          obtain ⟨e0, e1, _, _⟩ := K52.out.two
          have n5 := K52.out.lt
          have H2d := Lib.hid (H2.out.next (below_drew _))
          clear hn20 d0 d1
          refine wp_region_held_drew (S := (fun w' => w'.cell? ⟨wr.heap.size, 0, none⟩ = some (.string x.op) ∧ w'.cell? ⟨wr.heap.size, 1, none⟩ = some (.slice xa x.args.length xc))) (by kernel_rfl) ?hS1_0 (fun hHeld => ?hR1_0)
          case hS1_0 => (try dsimp only); go_keep
          refine wpAnyH_take (i := 0) (oi := ⟨some 24, _, _, _, _, _⟩) (v := ?v1_1) rfl (by kernel_rfl) (by kernel_rfl) (by kernel_rfl) (fun _ _ _ h => h) (Or.inl ⟨by rfl, ?hy1_1⟩) (by assumption) ?r1_1
          case hy1_1 => (intro w hSw; (try dsimp only at hSw); go_simp; (try with_reducible rfl))
          (try simp only [Act.put, List.setIfInBounds_toArray, List.set_cons_zero, List.set_cons_succ])
          refine wpAnyH_take (i := 1) (oi := ⟨some 25, _, _, _, _, _⟩) (v := ?v1_2) rfl (by kernel_rfl) (by kernel_rfl) (by kernel_rfl) (fun _ _ _ h => h) (Or.inl ⟨by rfl, ?hy1_2⟩) (by assumption) ?r1_2
          case hy1_2 => (intro w hSw; (try dsimp only at hSw); go_simp; (try with_reducible rfl))
          (try simp only [Act.put, List.setIfInBounds_toArray, List.set_cons_zero, List.set_cons_succ])
          refine wpAnyH_take (i := 2) (oi := ⟨some 26, _, _, _, _, _⟩) (v := ?v1_3) rfl (by kernel_rfl) (by kernel_rfl) (by kernel_rfl) (fun _ _ _ h => h) (Or.inl ⟨by rfl, ?hy1_3⟩) (by assumption) ?r1_3
          case hy1_3 => (intro w hSw; (try dsimp only at hSw); go_simp; (try with_reducible rfl))
          (try simp only [Act.put, List.setIfInBounds_toArray, List.set_cons_zero, List.set_cons_succ])
          refine wpAnyH_take (i := 4) (oi := ⟨some 28, _, _, _, _, _⟩) (v := ?v1_4) rfl (by kernel_rfl) (by kernel_rfl) (by kernel_rfl) (fun _ _ _ h => h) (Or.inl ⟨by rfl, ?hy1_4⟩) (by assumption) ?r1_4
          case hy1_4 => (intro w hSw; (try dsimp only at hSw); go_simp; (try with_reducible rfl))
          (try simp only [Act.put, List.setIfInBounds_toArray, List.set_cons_zero, List.set_cons_succ])
          refine wpAnyH_take (i := 5) (oi := ⟨some 29, _, _, _, _, _⟩) (v := ?v1_5) rfl (by kernel_rfl) (by kernel_rfl) (by kernel_rfl) (fun _ _ _ h => h) (Or.inl ⟨by rfl, ?hy1_5⟩) (by assumption) ?r1_5
          case hy1_5 => (intro w hSw; (try dsimp only at hSw); go_simp; (try with_reducible rfl))
          (try simp only [Act.put, List.setIfInBounds_toArray, List.set_cons_zero, List.set_cons_succ])
          refine wpAnyH_ready (rs := [3]) (by kernel_rfl) (by simp) ?_
          refine AllReadyH.cons (o := ⟨some 27, _, _, _, _, _⟩) rfl (fun K hK => ?st1_6) AllReadyH.nil
          go_simp
          refine hK.out _ _ ?hS1_6 (fun hHeld => ?r1_6)
          case hS1_6 => (try dsimp only); go_keep
          clear hK K
          (try simp only [Act.put, List.setIfInBounds_toArray])
          refine wpAnyH_ready (rs := [6]) (by kernel_rfl) (by simp) ?_
          refine AllReadyH.cons (o := ⟨some 30, _, _, _, _, _⟩) rfl (fun K hK => ?st1_7) AllReadyH.nil
          (refine step_append_empty (by rfl) (.tmp 27) (.tmp 29) (by rfl) p _ x.args (by rfl) (by rfl) HXd.out HN20.out ?_; intro a3 c3 w3 ho3 hb3; have HO3 := Lib.hid ho3; have HB3 := Lib.hid hb3; have K53 := Lib.hid (K52.out.below (below_drew w2) n5 |>.below hb3 n5); obtain ⟨e0, e1, _, _⟩ := K53.out.two; have n53 := Nat.lt_of_lt_of_le n5 hb3.size; have HS3 := Lib.hid (ho3.slR (q := fun k => w2.heap.size ≤ k) (fun _ h => h.elim) (fun _ h => h)); clear ho3 hb3)
          refine hK.out _ _ ?hS1_7 (fun hHeld => ?r1_7)
          case hS1_7 => (try dsimp only); go_keep
          clear hK K
          (try simp only [Act.put, List.setIfInBounds_toArray, List.set_cons_zero, List.set_cons_succ])
          refine wpAnyH_take (i := 7) (oi := ⟨some 31, _, _, _, _, _⟩) (v := ?v1_8) rfl (by kernel_rfl) (by kernel_rfl) (by kernel_rfl) (fun _ _ _ h => h) (Or.inl ⟨by rfl, ?hy1_8⟩) (by assumption) ?r1_8
          case hy1_8 => (intro w hSw; (try dsimp only at hSw); go_simp; (try with_reducible rfl))
          (try simp only [Act.put, List.setIfInBounds_toArray, List.set_cons_zero, List.set_cons_succ])
          refine wpAnyH_ready (rs := [8]) (by kernel_rfl) (by simp) ?_
          refine AllReadyH.cons (o := ⟨some 32, _, _, _, _, _⟩) rfl (fun K hK => ?st1_9) AllReadyH.nil
          go_simp
          refine hK.out _ _ ?hS1_9 (fun hHeld => ?r1_9)
          case hS1_9 => (try dsimp only); go_keep
          clear hK K
          (try simp only [Act.put, List.setIfInBounds_toArray])
          refine wpAnyH_ready (rs := [9]) (by kernel_rfl) (by simp) ?_
          refine AllReadyH.cons (o := ⟨some 33, _, _, _, _, _⟩) rfl (fun K hK => ?st1_10) AllReadyH.nil
          (refine step_push_cl (x := x) (by rfl) (.tmp 24) (.tmp 32) (by rfl) (by rfl) (by rfl) H2d.out HB3.out HS3.out HO30.out ?_; intro a4 c4 w4 hc4 hg4; have HC4 := Lib.hid hc4; obtain ⟨e0, e1, _, _⟩ := ((K53.out.alloc _).grown hg4 (fun e => by have := (H.out.own.lt _ e.symm).2; omega)).two; clear hc4 hg4)
          refine hK.out _ _ ?hS1_10 (fun hHeld => ?r1_10)
          case hS1_10 => (try dsimp only); go_keep
          clear hK K
          (try simp only [Act.put, List.setIfInBounds_toArray, List.set_cons_zero, List.set_cons_succ])
          refine wpAnyH_take (i := 10) (oi := ⟨some 3, _, _, _, _, _⟩) (v := ?v1_11) rfl (by kernel_rfl) (by kernel_rfl) (by kernel_rfl) (fun _ _ _ h => h) (Or.inl ⟨by rfl, ?hy1_11⟩) (by assumption) ?r1_11
          case hy1_11 => (intro w hSw; (try dsimp only at hSw); go_simp; (try with_reducible rfl))
          (try simp only [Act.put, List.setIfInBounds_toArray, List.set_cons_zero, List.set_cons_succ])
          refine wpAnyH_done (by kernel_rfl) ?_ _
          go_wp2
          go_roundw
          case rel => exact ⟨k + 1, _, by omega, by go_num, by rw [HTK.out]; intro y hy; rcases List.mem_append.1 hy with hy | hy; exact HSH.out y hy; simp at hy; subst hy; exact HSB.out, by rw [HTK.out]; exact HC4.out⟩
          case measure => simp [intOf]; omega
      · obtain rfl : k = l.length := by omega
        rw [List.take_length] at hh hsh
        have HC := Lib.hid hh
        have HSHA := Lib.hid hsh
        have HOW := Lib.hid (hh.own.slR (q := fun _ => True) (fun _ _ => trivial) (fun _ _ => trivial))
        have HALL := Lib.hid (All_any _ _ l wr HOW.out (hh.spc0.below hh.below) (by omega) (fun x hx => by have := hsh x hx; simp [short8] at this; omega) HF.out)
        clear hh hsh H HSH
        rw [List.take_length]
        go_wp2_with (go_at_call 31; refine HALL.out.mono ?_; rintro e w5 ⟨⟨v5, zs, rfl, hz, ha⟩, hb⟩; have hzn : ((zs.length : Int) != l.length) = false := (by have := congrArg List.length hz; simp at this; simp [this]); have HA5 := Lib.hid ha; have HZ := Lib.hid hz; have HB5 := Lib.hid hb; obtain ⟨za, zc, rfl⟩ := ha.own.form; clear ha hz hb)
        cases hl0 : l with
        | nil =>
          subst hl0
          obtain rfl : zs = [] := by
            have := congrArg List.length HZ.out
            simpa using this
          go_loopw [44] (fun i wr => i = .int .i64 0 ∧ Below w5.heap.size w5 wr) (fun _ _ => 0)
          case atStart => exact ⟨rfl, Below.refl _ _⟩
          case round =>
            obtain ⟨rfl, hb⟩ := hrel
            have HB6 := Lib.hid ((HC.out.below.trans (HB5.out.mono HC.out.below.size)).trans (hb.mono (Nat.le_trans HC.out.below.size HB5.out.size)))
            clear hb
            go_wp2_with (go_at_call 25; refine (alive8_any _ (HT.out.below HB6.out)).mono ?_; rintro e w7 ⟨rfl, hb⟩; have HB7 := Lib.hid (HB6.out.trans (hb.mono HB6.out.size)); clear hb)
            go_ret
            exact ⟨rfl, HB7.out⟩
        | cons x0 xt =>
          have hne : zs ≠ [] := fun e => by
            have := congrArg List.length HZ.out
            rw [e, hl0] at this
            simp at this
          have hzl : zs.length = l.length := by
            have := congrArg List.length HZ.out
            simpa using this
          rw [← hl0]
          have HLP : Hid (0 < l.length) := by rw [hl0]; exact Lib.hid (by simp)
          clear hl0
          obtain ⟨g, o, rfl, hch⟩ := HA5.out.ch hne
          have HCH := Lib.hid hch
          have HZL := Lib.hid hzl
          obtain ⟨wB, rfl⟩ : ∃ wB : World, wB = wr := ⟨_, rfl⟩
          rw [hzl]
          have hbl : wB.heap.size ≤ w5.heap.size := HB5.out.size
          clear hch hne hzl hzn
          go_loopw [44] (fun i wr => ∃ (k : Nat) (ys : List InsO), k ≤ l.length ∧ i = .int .i64 k ∧ ys.length = l.length ∧ (∀ j z, k ≤ j → ys[j]? = some z → (l.map canonOf)[j]? = some z.x) ∧ CH wB.heap.size g o ys wr ∧ Below wB.heap.size wB wr) (fun i _ => l.length - (intOf i).toNat)
          case atStart => exact ⟨0, zs, Nat.zero_le _, rfl, HZL.out, fun j z _ hj => by rw [← HZ.out, List.getElem?_map, hj]; rfl, HCH.out, HB5.out⟩
          case round =>
            obtain ⟨k, ys, hk, rfl, hyl, hyx, hch, hb⟩ := hrel
            have HYL := Lib.hid hyl
            have HYX := Lib.hid hyx
            have HC2 := Lib.hid hch
            have HB6 := Lib.hid hb
            have HBW := Lib.hid (HC.out.below.trans (hb.mono HC.out.below.size))
            by_cases hlt : k < l.length
            · obtain ⟨ad, cd, hv, _, _, g1⟩ := HC.out.sl0.old.ins
              obtain ⟨rfl, _, rfl⟩ : a = ad ∧ l.length = l.length ∧ c = cd := by injection hv with h1 h2 h3; exact ⟨h1, h2, h3⟩
              obtain ⟨b, ob, vx, rfl, hbl', D0, D1, hsw⟩ := g1 k l[k] (List.getElem?_eq_getElem hlt)
              have d0 := (HBW.out.cell (p := ⟨b, ob + k * 2, none⟩) hbl'.2).trans D0
              have d1 := (HBW.out.cell (p := ⟨b, ob + k * 2 + 1, none⟩) hbl'.2).trans D1
              have HXB := Lib.hid (hsw.mono (q := fun _ => True) fun _ _ => trivial)
              have hs := HXB.out.below HBW.out
              clear D0 D1 hbl' hsw
              obtain ⟨ad, cd, hv, _, _, g2⟩ := HOW.out.old.ins
              obtain ⟨rfl, _, rfl⟩ : oa = ad ∧ l.length = l.length ∧ oc = cd := by injection hv with h1 h2 h3; exact ⟨h1, h2, h3⟩
              obtain ⟨bo, oo, vo, rfl, hbo, P0, P1, hsB⟩ := g2 k l[k] (List.getElem?_eq_getElem hlt)
              have HP0 := Lib.hid P0
              have HP1 := Lib.hid P1
              have HBOB : Hid (bo < wB.heap.size) := hbo.2
              have p0 := (hb.cell (p := ⟨bo, oo + k * 2, none⟩) hbo.2).trans P0
              have p1 := (hb.cell (p := ⟨bo, oo + k * 2 + 1, none⟩) hbo.2).trans P1
              have HOB := Lib.hid (hsB.mono (q := fun k => k < wB.heap.size) fun _ hk => hk.2)
              have hso := HOB.out.keep (Keep.of_below hb fun _ hk => hk)
              clear P0 P1 hbo hsB
              obtain ⟨z, hz⟩ : ∃ z, ys[k]? = some z := ⟨ys[k]'(by omega), List.getElem?_eq_getElem _⟩
              have hzx : z.x = canonOf l[k] := by
                have h1 := hyx k z (Nat.le_refl _) hz
                rw [List.getElem?_map, List.getElem?_eq_getElem hlt] at h1
                exact (Option.some.inj h1).symm
              obtain ⟨ca, cc, q0, q1, hco⟩ := hch.cells k z hz
              have HZK := Lib.hid hz
              have hn6 : l[k].args.length ≤ 1000000 := by have := HSHA.out l[k] (List.getElem_mem hlt); simp [short8] at this; omega
              have HN6 := Lib.hid hn6
              have HFK := Lib.hid (HF.out l[k] (List.getElem_mem hlt))
              clear g1 g2 hch hb hyl hyx hn6
              generalize l[k] = x at *
              obtain ⟨zx, lo, hi⟩ := z
              dsimp only at hzx q0 q1 hco
              subst hzx
              obtain ⟨xa, xc, rfl, _⟩ := hs.opd
              obtain ⟨ya, yc, rfl, _⟩ := hso.opd
              have HXS := Lib.hid hs
              have HOS := Lib.hid hso
              have R0 : Hid (R7H wB g o ys x wr.heap.size (.slice xa x.args.length xc) (wr.alloc (.cells #[.string x.op, .slice xa x.args.length xc] 39))) :=
                ⟨HB6.out.trans ((below_alloc wr _).mono HB6.out.size), HC2.out.next (below_alloc wr _), Blk.new wr _ _, fun z hz => (HC2.out.rng.mem z hz).2.2⟩
              have hg8 := HC2.out.hg
              have hb8 : bo < wr.heap.size := World.block_lt_of_cell? _ _ p0
              have R1 := Lib.hid (R0.out.next (below_drew _))
              have HX1 := Lib.hid ((HXS.out.alloc (.cells #[.string x.op, .slice xa x.args.length xc] 39)).drew)
              have HO1 := Lib.hid ((HOS.out.alloc (.cells #[.string x.op, .slice xa x.args.length xc] 39)).drew)
              clear hs hso
              go_upto_region 17 with fail
              obtain ⟨W7, hW7⟩ : ∃ W : World, W = wr.alloc (.cells #[.string x.op, .slice xa x.args.length xc] 39) := ⟨_, rfl⟩
              have q0' : W7.cell? ⟨g, o + k * 2, none⟩ = some (.string (canonOf x).op) := by rw [hW7, World.cell?_alloc_lt _ _ _ hg8]; exact q0
              have q1' : W7.cell? ⟨g, o + k * 2 + 1, none⟩ = some (.slice ca (canonOf x).args.length cc) := by rw [hW7, World.cell?_alloc_lt _ _ _ hg8]; exact q1
              have p0' : W7.cell? ⟨bo, oo + k * 2, none⟩ = some (.string x.op) := by rw [hW7, World.cell?_alloc_lt _ _ _ hb8]; exact p0
              have p1' : W7.cell? ⟨bo, oo + k * 2 + 1, none⟩ = some (.slice ya x.args.length yc) := by rw [hW7, World.cell?_alloc_lt _ _ _ hb8]; exact p1
              have HO2 : Hid (OpdOwn W7.drew (fun b => lo ≤ b ∧ b < hi) (.slice ca (canonOf x).args.length cc) (canonOf x).args) := hW7 ▸ (hco.below (below_alloc wr _)).below (below_drew _)
              rw [← hW7] at R0 R1 HX1 HO1 ⊢
              clear hW7 q0 q1 p0 p1 d0 d1 hco
              obtain ⟨t0, t1, _, _⟩ := R0.out.k8.two
              have tok1 : True := trivial
              go_region_held3 (fun w' => w'.cell? ⟨g, o + k * 2, none⟩ = some (.string (canonOf x).op) ∧ w'.cell? ⟨g, o + k * 2 + 1, none⟩ = some (.slice ca (canonOf x).args.length cc) ∧ w'.cell? ⟨bo, oo + k * 2, none⟩ = some (.string x.op) ∧ w'.cell? ⟨bo, oo + k * 2 + 1, none⟩ = some (.slice ya x.args.length yc) ∧ w'.cell? ⟨wr.heap.size, 0, none⟩ = some (.string x.op) ∧ w'.cell? ⟨wr.heap.size, 1, none⟩ = some (.slice xa x.args.length xc)) (go_keep)
                (first | (go_at_call 33; refine (ref08Of_any _ x _ _ HX1.out HN6.out HFK.out).mono ?_; rintro e w8 ⟨v8, rfl, ho8, hb⟩; have R2 := Lib.hid (R1.out.next hb); have HX2 := Lib.hid (HX1.out.below hb); have HO3 := Lib.hid (HO1.out.below hb); have HO4 := Lib.hid (HO2.out.below hb); have HV8 := Lib.hid ho8.slR; have q0' := (hb.cell (p := ⟨g, o + k * 2, none⟩) (World.block_lt_of_cell? _ _ q0')).trans q0'; have q1' := (hb.cell (p := ⟨g, o + k * 2 + 1, none⟩) (World.block_lt_of_cell? _ _ q1')).trans q1'; have p0' := (hb.cell (p := ⟨bo, oo + k * 2, none⟩) (World.block_lt_of_cell? _ _ p0')).trans p0'; have p1' := (hb.cell (p := ⟨bo, oo + k * 2 + 1, none⟩) (World.block_lt_of_cell? _ _ p1')).trans p1'; obtain ⟨t0, t1, _, _⟩ := R2.out.k8.two; clear hb ho8)
                       | (go_at_call 32; have _t := tok1; refine (ref07Same_any _ _ (canonOf x) (canonOf x) _ _ _ HO4.out.slR HV8.out).mono ?_; rw [insEq_refl]; rintro e w9 ⟨rfl, hb⟩; have R3 := Lib.hid (R2.out.next hb); have HX3 := Lib.hid (HX2.out.below hb); have HO5 := Lib.hid (HO3.out.below hb); have HO6 := Lib.hid (HO4.out.below hb); have q0' := (hb.cell (p := ⟨g, o + k * 2, none⟩) (World.block_lt_of_cell? _ _ q0')).trans q0'; have q1' := (hb.cell (p := ⟨g, o + k * 2 + 1, none⟩) (World.block_lt_of_cell? _ _ q1')).trans q1'; have p0' := (hb.cell (p := ⟨bo, oo + k * 2, none⟩) (World.block_lt_of_cell? _ _ p0')).trans p0'; have p1' := (hb.cell (p := ⟨bo, oo + k * 2 + 1, none⟩) (World.block_lt_of_cell? _ _ p1')).trans p1'; obtain ⟨t0, t1, _, _⟩ := R3.out.k8.two; clear hb tok1 _t)
                       | (go_at_call 32; refine (ref07Same_any _ _ x x _ _ _ HO5.out HX3.out).mono ?_; rw [insEq_refl]; rintro e w10 ⟨rfl, hb⟩; have R4 := Lib.hid (R3.out.next hb); have HX4 := Lib.hid (HX3.out.below hb); have HO7 := Lib.hid (HO5.out.below hb); have HO8 := Lib.hid (HO6.out.below hb); have q0' := (hb.cell (p := ⟨g, o + k * 2, none⟩) (World.block_lt_of_cell? _ _ q0')).trans q0'; have q1' := (hb.cell (p := ⟨g, o + k * 2 + 1, none⟩) (World.block_lt_of_cell? _ _ q1')).trans q1'; have p0' := (hb.cell (p := ⟨bo, oo + k * 2, none⟩) (World.block_lt_of_cell? _ _ p0')).trans p0'; have p1' := (hb.cell (p := ⟨bo, oo + k * 2 + 1, none⟩) (World.block_lt_of_cell? _ _ p1')).trans p1'; obtain ⟨t0, t1, _, _⟩ := R4.out.k8.two; clear hb))
              have hlenc : (canonOf x).args.length ≤ 1000001 := by have := canon_len x; have := HN6.out; omega
              have q2' := q1'
              generalize wr.heap.size = b8 at *
              go_wp2_with fail
              go_loopw [72] (fun i wz => ∃ (j : Nat) (zs' : List InsO) (z' : InsO), j ≤ (canonOf x).args.length ∧ i = .int .i64 j ∧ zs'.length = l.length ∧ (∀ i', i' ≠ k → zs'[i']? = ys[i']?) ∧ zs'[k]? = some z' ∧ z'.x.args.length = (canonOf x).args.length ∧ wz.cell? ⟨g, o + k * 2 + 1, none⟩ = some (.slice ca (canonOf x).args.length cc) ∧ R7H wB g o zs' x b8 (.slice xa x.args.length xc) wz) (fun i _ => (canonOf x).args.length - (intOf i).toNat)
              case atStart => exact ⟨0, ys, _, Nat.zero_le _, rfl, HYL.out, fun _ _ => rfl, HZK.out, rfl, q1', R4.out⟩
              case round =>
                obtain ⟨j, zs', z', hj, rfl, hzl', hzo, hzk, hza, hq1, hr⟩ := hrel
                have HZL2 := Lib.hid hzl'
                have HZO := Lib.hid hzo
                have HZK2 := Lib.hid hzk
                have HZA := Lib.hid hza
                have RR := Lib.hid hr
                have HQ1 := Lib.hid hq1
                obtain ⟨a', c', _, e2, hop⟩ := hr.ch.cells k z' hzk
                rw [hza, hq1] at e2
                rw [hza] at hop
                injection e2 with e2
                injection e2 with e2a e2b e2c
                subst e2a e2c
                by_cases hltj : j < (canonOf x).args.length
                · obtain ⟨y, hy⟩ : ∃ y, z'.x.args[j]? = some y := ⟨z'.x.args[j]'(by rw [hza]; exact hltj), List.getElem?_eq_getElem _⟩
                  obtain ⟨ax, cx, ex, _, _, gx⟩ := hop
                  injection ex with ex1 ex2 ex3
                  clear ex2
                  subst ex1 ex3
                  obtain ⟨bz, oz, rfl, hqz, hbz, s0, s1, s2, frz⟩ := gx j y hy
                  have f2 := frz (oz + j * 3 + 2)
                  have HSET := Lib.hid (fun m => RR.out.setN (m := m) hzk hq1 hy hqz)
                  have hgz : g ≠ bz := fun e => hr.ch.row z' (List.mem_of_getElem? hzk) (e ▸ hqz)
                  have hgz' : bz ≠ g := fun e => hgz e.symm
                  have HCELL : Hid (∀ m : Int, (wr.setCell ⟨bz, oz + j * 3 + 2, none⟩ (.int .i64 m)).cell? ⟨g, o + k * 2 + 1, none⟩ = some (.slice (some ⟨bz, oz, none⟩) (canonOf x).args.length cc)) := fun m => by
                    rw [World.cell?_setCell_other _ _ _ _ (by intro e; injection e with e1; exact hgz e1.symm)]; exact HQ1.out
                  clear gx frz hqz hr hzo hzk hza hzl'
                  go_wp2
                  go_roundw
                  case rel => exact ⟨j + 1, _, _, by omega, by go_num, by rw [List.length_set]; exact HZL2.out, fun i' hi' => by rw [List.getElem?_set_ne (Ne.symm hi')]; exact HZO.out i' hi', List.getElem?_set_self (List.getElem?_eq_some_iff.1 HZK2.out).1, by dsimp only; rw [List.length_set]; exact HZA.out, HCELL.out _, HSET.out _⟩
                  case measure => simp [intOf]; omega
                · obtain ⟨t0, t1, _, _⟩ := hr.k8.two
                  have hbo := HBOB.out
                  have p0 := (hr.below.cell (p := ⟨bo, oo + k * 2, none⟩) hbo).trans HP0.out
                  have p1 := (hr.below.cell (p := ⟨bo, oo + k * 2 + 1, none⟩) hbo).trans HP1.out
                  have RRd := Lib.hid (RR.out.next (below_drew _))
                  have HOZ := Lib.hid (HOB.out.keep (Keep.of_below RRd.out.below fun _ hk => hk))
                  have HXZ := Lib.hid ((HXB.out.below (HC.out.below.trans (RRd.out.below.mono HC.out.below.size))))
                  clear hop hr hzo hzk hza hzl' hbo
                  go_upto_region 24 with fail
                  go_region_held3 (fun w' => w'.cell? ⟨bo, oo + k * 2, none⟩ = some (.string x.op) ∧ w'.cell? ⟨bo, oo + k * 2 + 1, none⟩ = some (.slice ya x.args.length yc) ∧ w'.cell? ⟨b8, 0, none⟩ = some (.string x.op) ∧ w'.cell? ⟨b8, 1, none⟩ = some (.slice xa x.args.length xc)) (go_keep)
                    (first | (go_at_call 32; refine (ref07Same_any _ _ x x _ _ _ HOZ.out HXZ.out).mono ?_; rw [insEq_refl]; rintro e w12 ⟨rfl, hb⟩; have R12 := Lib.hid (RRd.out.next hb); have p0 := (hb.cell (p := ⟨bo, oo + k * 2, none⟩) (World.block_lt_of_cell? _ _ p0)).trans p0; have p1 := (hb.cell (p := ⟨bo, oo + k * 2 + 1, none⟩) (World.block_lt_of_cell? _ _ p1)).trans p1; obtain ⟨t0, t1, _, _⟩ := R12.out.k8.two; clear hb))
                  go_wp2
                  go_roundw
                  case rel => exact ⟨k + 1, zs', by omega, by go_num, HZL2.out, fun j z hj hz => by rw [HZO.out j (by omega)] at hz; exact HYX.out j z (by omega) hz, R12.out.ch, R12.out.below⟩
                  case measure => simp [intOf]; omega
            · have HBE := Lib.hid (HC.out.below.trans (HB6.out.mono HC.out.below.size))
              clear hch hb hyl hyx
              go_wp2_with (go_at_call 25; refine (alive8_any _ (HT.out.below HBE.out)).mono ?_; rintro e w7 ⟨rfl, hb⟩; have HB7 := Lib.hid (HBE.out.trans (hb.mono HBE.out.size)); clear hb)
              go_ret
              exact ⟨rfl, HB7.out⟩
  · go_enter Tryd.func7, Tryd.ntmps7
    go_wp2_with (go_at_call 25; refine (alive8_any _ HT.out).mono ?_; rintro e w3 ⟨rfl, hb⟩; have HB3 := Lib.hid hb; clear hb)
    go_ret
    exact ⟨rfl, HB3.out⟩
end Go.Proofs.YtkkjoghfdmmpaaaDoor
