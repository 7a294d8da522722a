/-
  The canonical form: canon.Of and what it computes. Conditions: sizes.
-/
import Derived.Test.YtlepicdjnbbndaaGreatDoorK1
import Derived.Lib.QuietBelow
import Derived.BigRegion
import Derived.Deep.RegionHeld3
/-
  canon.Width, the accumulator's step. Conditions: the library's table of white space as its initialiser lays it; at most a million operands.
-/
namespace Go.Proofs.YtlepicdjnbbndaaGreatDoor
open Go.RowKit Go.Sort

/-- A list of operands in a row of the call's own, in a block of q: its cells may be written. -/
def OpdOwn (w : World) (q : Blocks) (v : Value) (l : List Opd) : Prop :=
  ∃ a cap, v = .slice a l.length cap ∧ l.length ≤ cap ∧ cap ≤ 9223372036854775807 ∧
    ∀ i x, l[i]? = some x → ∃ b o, a = some ⟨b, o, none⟩ ∧ q b ∧ b < w.heap.size ∧ w.cell? ⟨b, o + i * 3, none⟩ = some (.int .i64 x.kind) ∧ w.cell? ⟨b, o + i * 3 + 1, none⟩ = some (.int .i64 x.reg) ∧ w.cell? ⟨b, o + i * 3 + 2, none⟩ = some (.int .i64 x.n) ∧
      ∀ j, w.frozen? ⟨b, j, none⟩ = false
theorem OpdOwn.keep {w w' : World} {q : Blocks} {v : Value} {l : List Opd} (h : OpdOwn w q v l) (hk : Keep q w w') : OpdOwn w' q v l := by
  obtain ⟨a, cap, e, h1, h2, h3⟩ := h
  refine ⟨a, cap, e, h1, h2, fun i x hx => ?_⟩
  obtain ⟨b, o, ea, hq, hb, c0, c1, c2, f2⟩ := h3 i x hx
  have hh := hk b hq
  have hc : ∀ j, w'.cell? ⟨b, j, none⟩ = w.cell? ⟨b, j, none⟩ := fun j => World.cell?_of_block (w := w) hh
  exact ⟨b, o, ea, hq, heap_lt hb hh, (hc _).trans c0, (hc _).trans c1, (hc _).trans c2, fun j => (World.frozen?_of_block (w := w) (a := ⟨b, j, none⟩) hh).trans (f2 j)⟩
theorem OpdOwn.below {w w' : World} {q : Blocks} {v : Value} {l : List Opd} (h : OpdOwn w q v l) (hb : Below w.heap.size w w') : OpdOwn w' q v l := by
  obtain ⟨a, cap, e, h1, h2, h3⟩ := h
  refine ⟨a, cap, e, h1, h2, fun i x hx => ?_⟩
  obtain ⟨b, o, ea, hq, hbs, c0, c1, c2, f2⟩ := h3 i x hx
  have hc : ∀ j, w'.cell? ⟨b, j, none⟩ = w.cell? ⟨b, j, none⟩ := fun j => hb.cell (p := ⟨b, j, none⟩) hbs
  exact ⟨b, o, ea, hq, Nat.lt_of_lt_of_le hbs hb.size, (hc _).trans c0, (hc _).trans c1, (hc _).trans c2, fun j => (hb.frozen (p := ⟨b, j, none⟩) hbs).trans (f2 j)⟩
theorem OpdOwn.mono {w : World} {q r : Blocks} {v : Value} {l : List Opd} (h : OpdOwn w q v l) (hq : ∀ k, q k → r k) : OpdOwn w r v l := by
  obtain ⟨a, cap, e, h1, h2, h3⟩ := h
  refine ⟨a, cap, e, h1, h2, fun i x hx => ?_⟩
  obtain ⟨b, o, ea, hb, r⟩ := h3 i x hx
  exact ⟨b, o, ea, hq _ hb, r⟩
theorem OpdOwn.slR {w : World} {q : Blocks} {v : Value} {l : List Opd} (h : OpdOwn w q v l) : SlR opdR w q v l := by
  obtain ⟨a, cap, e, h1, h2, h3⟩ := h
  refine ⟨a, cap, e, h1, by simpa [maxLen] using h2, fun i x hx => ?_⟩
  obtain ⟨b, o, ea, hq, hb, c0, c1, c2, f2⟩ := h3 i x hx
  refine ⟨b, o, x.cells, ea, hq, hb, fun j u hu => ?_, rfl⟩
  match j, hu with
  | 0, hu => simp [Opd.cells] at hu; subst hu; exact c0
  | 1, hu => simp [Opd.cells] at hu; subst hu; exact c1
  | 2, hu => simp [Opd.cells] at hu; subst hu; exact c2
theorem Own.opdOwn {w : World} {B : Nat} {e : TypeId} {p q : Blocks} {v : Value} {l : List Opd} (h : Own opdR w B e p v l) (hq : ∀ k, v.ownBlock = some k → q k) : OpdOwn w q v l := by
  have hs := h.slR (q := fun k => p k ∨ B ≤ k) (fun k hk => .inl hk) (fun k hk => .inr hk)
  obtain ⟨cs, hrow, hels⟩ := h
  obtain ⟨a, cap, rfl, h1, h2, h3⟩ := hs.opd
  refine ⟨a, cap, rfl, h1, h2, fun i x hx => ?_⟩
  obtain ⟨b, o, ea, hb, c0, c1, c2⟩ := h3 i x hx
  subst ea
  refine ⟨b, o, rfl, hq b rfl, World.block_lt_of_cell? w _ c0, c0, c1, c2, ?_⟩
  rcases hrow.2 with ⟨hv, _⟩ | ⟨g, cap', cur, hv, hbg, hg, _⟩
  · cases hv
  · injection hv with hv
    injection hv with hv
    injection hv with hv1
    subst hv1
    exact fun j => frozen_of_row w b j cur e hg

/-- SUB AND XOR OR CP -/
def wSub : List ByteArray := [⟨#[83, 85, 66]⟩, ⟨#[65, 78, 68]⟩, ⟨#[88, 79, 82]⟩, ⟨#[79, 82]⟩, ⟨#[67, 80]⟩]
/-- ADD ADC SBC -/
def wAdd : List ByteArray := [⟨#[65, 68, 68]⟩, ⟨#[65, 68, 67]⟩, ⟨#[83, 66, 67]⟩]
def regA : Opd := ⟨1, 7, 0⟩
/-- the step that leaves out the register A, or puts it in -/
def accum (s : ByteArray) (l : List Opd) : List Opd :=
  match l with
  | [x] => if inL wAdd s then [regA, x] else [x]
  | [x, y] => if inL wSub s && opdEq x regA then [y] else [x, y]
  | l => l

/-- What the steps of the canonical form leave: the writer's block, its operands in a row of the call's own. -/
structure Wr (w0 w : World) (bw : Nat) (s : ByteArray) (v : Value) (l : List Opd) : Prop where
  blk : Blk w bw 169 #[.string s, v]
  own : OpdOwn w (fun b => w0.heap.size ≤ b ∧ b ≠ bw) v l
  old : w0.heap.size ≤ bw
  below : Below w0.heap.size w0 w
  spc0 : Spc w0
theorem Wr.spc {w0 w : World} {bw : Nat} {s : ByteArray} {v : Value} {l : List Opd} (h : Wr w0 w bw s v l) : Spc w := h.spc0.below h.below
/-- the operands' field is written -/
theorem Wr.set {w0 w : World} {bw : Nat} {s : ByteArray} {v v' : Value} {l l' : List Opd} (h : Wr w0 w bw s v l) (ho : OpdOwn w (fun b => w0.heap.size ≤ b ∧ b ≠ bw) v' l') : Wr w0 (w.setCell ⟨bw, 1, none⟩ v') bw s v' l' :=
  ⟨h.blk.set 1 v', ho.keep fun _ hk => Below.heap_setCell _ _ _ _ hk.2, h.old, h.below.setCell h.old _, h.spc0⟩

/-- the operands of a new block -/
theorem opdOwn_new {w : World} {q : Blocks} (l : List Opd) (cs : Array Value) (t : TypeId) (b n : Nat) (hb : b = w.heap.size) (hn : n = l.length) (hcs : cs.toList = l.flatMap Opd.cells) (hq : q b) (hl : l.length ≤ 1000000) : OpdOwn (w.alloc (.cells cs t)) q (.slice (some ⟨b, 0, none⟩) n n) l := by
  subst hb hn
  have hels : ∀ (l : List Opd) (p : Blocks) (w : World), Els opdR w p (l.flatMap Opd.cells) l := by
    intro l p w
    induction l with
    | nil => rfl
    | cons x l ih => exact ⟨x.cells, l.flatMap Opd.cells, rfl, rfl, ih⟩
  have hlen : cs.size = l.length * 3 := by
    have := (hels l (fun _ => True) w).len
    rw [← hcs] at this
    simpa [opdR_size] using this
  have ho : Own opdR (w.alloc (.cells cs t)) w.heap.size t (fun _ => True) (.slice (some ⟨w.heap.size, 0, none⟩) l.length l.length) l :=
    ⟨cs.toList, ⟨by rw [opdR_size]; simpa using hlen, .inr ⟨w.heap.size, l.length, cs, rfl, Nat.le_refl _, heap_alloc_new w _, Nat.le_refl _, by unfold maxLen; omega, by rw [opdR_size]; exact hlen, List.take_of_length_le (by rw [opdR_size, ← hlen, Array.length_toList]; exact Nat.le_refl _)⟩⟩, by rw [hcs]; exact hels l _ _⟩
  exact ho.opdOwn (fun k hk => by cases hk; exact hq)
theorem Wr.setNew {w0 w : World} {bw : Nat} {s : ByteArray} {v : Value} {l : List Opd} (h : Wr w0 w bw s v l) {x y : Opd} (cs : Array Value) (hcs : cs.toList = [x, y].flatMap Opd.cells) :
    Wr w0 (((w.setCell ⟨bw, 1, none⟩ (.slice (some ⟨w.heap.size, 0, none⟩) 2 2)).alloc (.cells cs 87)).drew) bw s (.slice (some ⟨w.heap.size, 0, none⟩) 2 2) [x, y] := by
  have hlt := h.blk.lt
  have hsz : (w.setCell ⟨bw, 1, none⟩ (.slice (some ⟨w.heap.size, 0, none⟩) 2 2)).heap.size = w.heap.size := by simp [World.setCell]
  have ho := opdOwn_new (w := w.setCell ⟨bw, 1, none⟩ (.slice (some ⟨w.heap.size, 0, none⟩) 2 2)) (q := fun b => w0.heap.size ≤ b ∧ b ≠ bw) [x, y] cs 87 w.heap.size 2 hsz.symm rfl hcs ⟨Nat.le_of_lt (Nat.lt_of_le_of_lt h.old hlt), by omega⟩ (by simp)
  refine ⟨(h.blk.set 1 _).alloc _, ho.keep fun _ _ => rfl, h.old, ((h.below.setCell h.old _).alloc (by rw [hsz]; exact Nat.le_of_lt (Nat.lt_of_le_of_lt h.old hlt)) _).drew, h.spc0⟩

theorem wSub_fields : fieldsOf ⟨#[83, 85, 66, 32, 65, 78, 68, 32, 88, 79, 82, 32, 79, 82, 32, 67, 80]⟩ = wSub := by decide +kernel
theorem wAdd_fields : fieldsOf ⟨#[65, 68, 68, 32, 65, 68, 67, 32, 83, 66, 67]⟩ = wAdd := by decide +kernel
theorem wSub_ascii : ∀ (j : Nat) b, (⟨#[83, 85, 66, 32, 65, 78, 68, 32, 88, 79, 82, 32, 79, 82, 32, 67, 80]⟩ : ByteArray).data.toList[j]? = some b → b.toNat < 128 := fun j b h =>
  (by decide +kernel : ∀ x ∈ (⟨#[83, 85, 66, 32, 65, 78, 68, 32, 88, 79, 82, 32, 79, 82, 32, 67, 80]⟩ : ByteArray).data.toList, x.toNat < 128) b (List.mem_of_getElem? h)
theorem wAdd_ascii : ∀ (j : Nat) b, (⟨#[65, 68, 68, 32, 65, 68, 67, 32, 83, 66, 67]⟩ : ByteArray).data.toList[j]? = some b → b.toNat < 128 := fun j b h =>
  (by decide +kernel : ∀ x ∈ (⟨#[65, 68, 68, 32, 65, 68, 67, 32, 83, 66, 67]⟩ : ByteArray).data.toList, x.toNat < 128) b (List.mem_of_getElem? h)
theorem wordSub_any (s : ByteArray) (w : World) (hT : Spc w) : Calls Tryz.prog 161 #[.string ⟨#[83, 85, 66, 32, 65, 78, 68, 32, 88, 79, 82, 32, 79, 82, 32, 67, 80]⟩, .string s] w fun e w' => e = .returned (.bool (inL wSub s)) ∧ Below w.heap.size w w' :=
  word_any _ wSub s w wSub_fields (by decide) (by decide) wSub_ascii hT
theorem wordAdd_any (s : ByteArray) (w : World) (hT : Spc w) : Calls Tryz.prog 161 #[.string ⟨#[65, 68, 68, 32, 65, 68, 67, 32, 83, 66, 67]⟩, .string s] w fun e w' => e = .returned (.bool (inL wAdd s)) ∧ Below w.heap.size w w' :=
  word_any _ wAdd s w wAdd_fields (by decide) (by decide) wAdd_ascii hT

theorem Wr.later {w0 w w' : World} {bw : Nat} {s : ByteArray} {v : Value} {l : List Opd} (h : Wr w0 w bw s v l) (hb : Below w.heap.size w w') : Wr w0 w' bw s v l :=
  ⟨h.blk.below hb h.blk.lt, h.own.below hb, h.old, h.below.trans (hb.mono h.below.size), h.spc0⟩

set_option maxHeartbeats 1000000 in
/-- no operand at the front that is left out, none put in -/
theorem acc_none (w0 w : World) (bw : Nat) (s : ByteArray) (a : Option Addr) (n c : Nat) (l : List Opd) (h : Wr w0 w bw s (.slice a n c) l) (hv : accum s l = l) (n1 : inL wAdd s = true → ((n : Int) == 1) = false) (n2 : inL wSub s = true → ((n : Int) == 2) = false) :
    Calls Tryz.prog 122 #[.pointer (some ⟨bw, 0, none⟩)] w fun e w' => e = .returned (.tuple #[]) ∧ ∃ v', Wr w0 w' bw s v' (accum s l) := by
  have HV := Lib.hid hv
  have N1 := Lib.hid n1
  have N2 := Lib.hid n2
  clear hv n1 n2
  cases h1 : inL wSub s
  · skip
    obtain ⟨w1, hw1⟩ : ∃ w1 : World, w1 = w.alloc (.cells #[.int .i64 1, .int .i64 7, .int .i64 0] 87) := ⟨_, rfl⟩
    have hb1 : Below w.heap.size w w1 := hw1 ▸ (Below.refl _ _).alloc (Nat.le_refl _) _
    have ka : Blk w1 w.heap.size 87 #[.int .i64 1, .int .i64 7, .int .i64 0] := hw1 ▸ Blk.new w _ _
    have HW1 := h.later hb1
    have E0 : ∀ d os, (grow (redrawn w1 d) os).cell? ⟨bw, 0, none⟩ = some (.string s) := fun d os => cell_regrown HW1.blk.two.1 d os
    have E1 : ∀ d os, (grow (redrawn w1 d) os).cell? ⟨bw, 1, none⟩ = some (.slice a n c) := fun d os => cell_regrown HW1.blk.two.2.1 d os
    have HS : Hid (∀ d os, Spc (grow (redrawn w1 d) os)) := fun d os => HW1.spc.below (below_regrown w1 d os)
    have hword := fun wx hT => wordSub_any s wx hT
    simp only [h1] at hword
    have HWORD := Lib.hid hword
    clear hword
    have KA := Lib.hid ka
    have HB1 := Lib.hid hb1
    have H1 := Lib.hid HW1
    clear ka hb1 HW1
    go_enter Tryz.func122, Tryz.ntmps122
    go_wp2
    rw [← hw1]
    have HE := Lib.hid hw1
    clear hw1
    refine wp_region_quiet_below (by kernel_rfl) (by kernel_rfl) ?_
    repeat (go_big_quiet_step (exact Calls.regrown_of (HWORD.out _ (HS.out _ _))))
    refine wpQuiet_nil ?_
    intro _ hw'
    obtain ⟨⟨dq, osq⟩, hw''⟩ := hw'
    subst hw''
    have HB2 : Hid (Below w1.heap.size w1 (grow (redrawn w1 dq) osq)) := below_regrown w1 dq osq
    generalize grow (redrawn w1 dq) osq = w2 at *
    have H2 : Hid (Wr w0 w2 bw s (.slice a n c) l) := H1.out.later HB2.out
    obtain ⟨e0, e1, f0, f1⟩ := H2.out.blk.two
    clear E0 E1 HS
    cases h2 : inL wAdd s
    · have hword := fun wx hT => wordAdd_any s wx hT
      simp only [h2] at hword
      have HWORD2 := Lib.hid hword
      clear hword
      go_wp2_with fail
      refine (HWORD2.out _ H2.out.spc).mono ?_
      rintro e w3 ⟨rfl, hb3⟩
      have H3 : Hid (Wr w0 w3 bw s (.slice a n c) l) := H2.out.later hb3
      have HB3 := Lib.hid hb3
      clear e0 e1 f0 f1 hb3
      obtain ⟨e0, e1, f0, f1⟩ := H3.out.blk.two
      go_wp2
      go_end0
      exact ⟨rfl, _, by rw [HV.out]; exact H3.out⟩
    · have n1 := N1.out h2
      have hword := fun wx hT => wordAdd_any s wx hT
      simp only [h2] at hword
      have HWORD2 := Lib.hid hword
      clear hword
      go_wp2_with fail
      refine (HWORD2.out _ H2.out.spc).mono ?_
      rintro e w3 ⟨rfl, hb3⟩
      have H3 : Hid (Wr w0 w3 bw s (.slice a n c) l) := H2.out.later hb3
      have HB3 := Lib.hid hb3
      clear e0 e1 f0 f1 hb3
      obtain ⟨e0, e1, f0, f1⟩ := H3.out.blk.two
      go_wp2
      go_end0
      exact ⟨rfl, _, by rw [HV.out]; exact H3.out⟩
  · have n2 := N2.out h1
    obtain ⟨w1, hw1⟩ : ∃ w1 : World, w1 = w.alloc (.cells #[.int .i64 1, .int .i64 7, .int .i64 0] 87) := ⟨_, rfl⟩
    have hb1 : Below w.heap.size w w1 := hw1 ▸ (Below.refl _ _).alloc (Nat.le_refl _) _
    have ka : Blk w1 w.heap.size 87 #[.int .i64 1, .int .i64 7, .int .i64 0] := hw1 ▸ Blk.new w _ _
    have HW1 := h.later hb1
    have E0 : ∀ d os, (grow (redrawn w1 d) os).cell? ⟨bw, 0, none⟩ = some (.string s) := fun d os => cell_regrown HW1.blk.two.1 d os
    have E1 : ∀ d os, (grow (redrawn w1 d) os).cell? ⟨bw, 1, none⟩ = some (.slice a n c) := fun d os => cell_regrown HW1.blk.two.2.1 d os
    have HS : Hid (∀ d os, Spc (grow (redrawn w1 d) os)) := fun d os => HW1.spc.below (below_regrown w1 d os)
    have hword := fun wx hT => wordSub_any s wx hT
    simp only [h1] at hword
    have HWORD := Lib.hid hword
    clear hword
    have KA := Lib.hid ka
    have HB1 := Lib.hid hb1
    have H1 := Lib.hid HW1
    clear ka hb1 HW1
    go_enter Tryz.func122, Tryz.ntmps122
    go_wp2
    rw [← hw1]
    have HE := Lib.hid hw1
    clear hw1
    refine wp_region_quiet_below (by kernel_rfl) (by kernel_rfl) ?_
    repeat (go_big_quiet_step (exact Calls.regrown_of (HWORD.out _ (HS.out _ _))))
    refine wpQuiet_nil ?_
    intro _ hw'
    obtain ⟨⟨dq, osq⟩, hw''⟩ := hw'
    subst hw''
    have HB2 : Hid (Below w1.heap.size w1 (grow (redrawn w1 dq) osq)) := below_regrown w1 dq osq
    generalize grow (redrawn w1 dq) osq = w2 at *
    have H2 : Hid (Wr w0 w2 bw s (.slice a n c) l) := H1.out.later HB2.out
    obtain ⟨e0, e1, f0, f1⟩ := H2.out.blk.two
    clear E0 E1 HS
    cases h2 : inL wAdd s
    · have hword := fun wx hT => wordAdd_any s wx hT
      simp only [h2] at hword
      have HWORD2 := Lib.hid hword
      clear hword
      go_wp2_with fail
      refine (HWORD2.out _ H2.out.spc).mono ?_
      rintro e w3 ⟨rfl, hb3⟩
      have H3 : Hid (Wr w0 w3 bw s (.slice a n c) l) := H2.out.later hb3
      have HB3 := Lib.hid hb3
      clear e0 e1 f0 f1 hb3
      obtain ⟨e0, e1, f0, f1⟩ := H3.out.blk.two
      go_wp2
      go_end0
      exact ⟨rfl, _, by rw [HV.out]; exact H3.out⟩
    · have n1 := N1.out h2
      have hword := fun wx hT => wordAdd_any s wx hT
      simp only [h2] at hword
      have HWORD2 := Lib.hid hword
      clear hword
      go_wp2_with fail
      refine (HWORD2.out _ H2.out.spc).mono ?_
      rintro e w3 ⟨rfl, hb3⟩
      have H3 : Hid (Wr w0 w3 bw s (.slice a n c) l) := H2.out.later hb3
      have HB3 := Lib.hid hb3
      clear e0 e1 f0 f1 hb3
      obtain ⟨e0, e1, f0, f1⟩ := H3.out.blk.two
      go_wp2
      go_end0
      exact ⟨rfl, _, by rw [HV.out]; exact H3.out⟩

set_option maxHeartbeats 2000000 in
theorem acc_two (w0 w : World) (bw : Nat) (s : ByteArray) (a : Option Addr) (n c : Nat) (x y : Opd) (l : List Opd) (hl : l = [x, y]) (h : Wr w0 w bw s (.slice a n c) l) :
    Calls Tryz.prog 122 #[.pointer (some ⟨bw, 0, none⟩)] w fun e w' => e = .returned (.tuple #[]) ∧ ∃ v', Wr w0 w' bw s v' (accum s l) := by
  have hown := h.own
  obtain ⟨a', c', e', hc, hm, g⟩ := hown
  have hln : l.length = 2 := by rw [hl]; rfl
  injection e' with e1 e2 e3
  subst e1 e3
  obtain rfl : n = 2 := by rw [e2, hln]
  obtain ⟨b, o, rfl, hq, hb, c0, c1, c2, _⟩ := g 0 x (by rw [hl]; rfl)
  obtain ⟨b', o', eb, hq', hb', d0, d1, d2, df⟩ := g 1 y (by rw [hl]; rfl)
  injection eb with eb
  injection eb with eb1 eb2
  subst eb1 eb2
  simp only [Nat.zero_mul, Nat.add_zero, Nat.one_mul] at c0 c1 c2 d0 d1 d2
  have h3 : c ≠ 1 := by rw [hln] at hc; omega
  have DF : Hid (w.cell? ⟨b, o + 3, none⟩ = some (.int .i64 y.kind) ∧ w.cell? ⟨b, o + 3 + 1, none⟩ = some (.int .i64 y.reg) ∧ w.cell? ⟨b, o + 3 + 2, none⟩ = some (.int .i64 y.n) ∧ ∀ j, w.frozen? ⟨b, j, none⟩ = false) := ⟨d0, d1, d2, df⟩
  have HC : Hid (2 ≤ c ∧ c ≤ 9223372036854775807) := by rw [hln] at hc; exact ⟨hc, hm⟩
  clear g d0 d1 d2 df hc hm e2 hln hb' hq'
  have hop := run_eqOpd
  cases h1 : inL wSub s
  · have HV := Lib.hid (show accum s l = l by rw [hl]; simp [accum, h1])
    have HL := Lib.hid hl
    clear hl
    obtain ⟨w1, hw1⟩ : ∃ w1 : World, w1 = w.alloc (.cells #[.int .i64 1, .int .i64 7, .int .i64 0] 87) := ⟨_, rfl⟩
    have hb1 : Below w.heap.size w w1 := hw1 ▸ (Below.refl _ _).alloc (Nat.le_refl _) _
    have ka : Blk w1 w.heap.size 87 #[.int .i64 1, .int .i64 7, .int .i64 0] := hw1 ▸ Blk.new w _ _
    have HW1 := h.later hb1
    have E0 : ∀ d os, (grow (redrawn w1 d) os).cell? ⟨bw, 0, none⟩ = some (.string s) := fun d os => cell_regrown HW1.blk.two.1 d os
    have E1 : ∀ d os, (grow (redrawn w1 d) os).cell? ⟨bw, 1, none⟩ = some (.slice (some ⟨b, o, none⟩) 2 c) := fun d os => cell_regrown HW1.blk.two.2.1 d os
    have HS : Hid (∀ d os, Spc (grow (redrawn w1 d) os)) := fun d os => HW1.spc.below (below_regrown w1 d os)
    have hword := fun wx hT => wordSub_any s wx hT
    simp only [h1] at hword
    have HWORD := Lib.hid hword
    clear hword
    have KA := Lib.hid ka
    have HB1 := Lib.hid hb1
    have H1 := Lib.hid HW1
    clear ka hb1 HW1
    go_enter Tryz.func122, Tryz.ntmps122
    go_wp2
    rw [← hw1]
    have HE := Lib.hid hw1
    clear hw1
    refine wp_region_quiet_below (by kernel_rfl) (by kernel_rfl) ?_
    repeat (go_big_quiet_step (exact Calls.regrown_of (HWORD.out _ (HS.out _ _))))
    refine wpQuiet_nil ?_
    intro _ hw'
    obtain ⟨⟨dq, osq⟩, hw''⟩ := hw'
    subst hw''
    have HB2 : Hid (Below w1.heap.size w1 (grow (redrawn w1 dq) osq)) := below_regrown w1 dq osq
    generalize grow (redrawn w1 dq) osq = w2 at *
    have H2 : Hid (Wr w0 w2 bw s (.slice (some ⟨b, o, none⟩) 2 c) l) := H1.out.later HB2.out
    obtain ⟨e0, e1, f0, f1⟩ := H2.out.blk.two
    clear E0 E1 HS
    cases h2 : inL wAdd s
    all_goals
      have hword := fun wx hT => wordAdd_any s wx hT
      simp only [h2] at hword
      have HWORD2 := Lib.hid hword
      clear hword
      go_wp2_with fail
      refine (HWORD2.out _ H2.out.spc).mono ?_
      rintro e w3 ⟨rfl, hb3⟩
      have H3 : Hid (Wr w0 w3 bw s (.slice (some ⟨b, o, none⟩) 2 c) l) := H2.out.later hb3
      have HB3 := Lib.hid hb3
      clear e0 e1 f0 f1 hb3
      obtain ⟨e0, e1, f0, f1⟩ := H3.out.blk.two
      go_wp2
      go_end0
      exact ⟨rfl, _, by rw [HV.out]; exact H3.out⟩
  · cases h4 : opdEq x regA
    · have HV := Lib.hid (show accum s l = l by rw [hl]; simp [accum, h1, h4])
      have HL := Lib.hid hl
      clear hl
      have hx : opdEq ⟨x.kind, x.reg, x.n⟩ ⟨1, 7, 0⟩ = false := h4
      obtain ⟨w1, hw1⟩ : ∃ w1 : World, w1 = w.alloc (.cells #[.int .i64 1, .int .i64 7, .int .i64 0] 87) := ⟨_, rfl⟩
      have hb1 : Below w.heap.size w w1 := hw1 ▸ (Below.refl _ _).alloc (Nat.le_refl _) _
      have ka : Blk w1 w.heap.size 87 #[.int .i64 1, .int .i64 7, .int .i64 0] := hw1 ▸ Blk.new w _ _
      have HW1 := h.later hb1
      have E0 : ∀ d os, (grow (redrawn w1 d) os).cell? ⟨bw, 0, none⟩ = some (.string s) := fun d os => cell_regrown HW1.blk.two.1 d os
      have E1 : ∀ d os, (grow (redrawn w1 d) os).cell? ⟨bw, 1, none⟩ = some (.slice (some ⟨b, o, none⟩) 2 c) := fun d os => cell_regrown HW1.blk.two.2.1 d os
      have HS : Hid (∀ d os, Spc (grow (redrawn w1 d) os)) := fun d os => HW1.spc.below (below_regrown w1 d os)
      have C0 : ∀ d os, (grow (redrawn w1 d) os).cell? ⟨b, o, none⟩ = some (.int .i64 x.kind) := fun d os => cell_regrown ((hb1.cell (p := ⟨b, o, none⟩) hb).trans c0) d os
      have C1 : ∀ d os, (grow (redrawn w1 d) os).cell? ⟨b, o + 1, none⟩ = some (.int .i64 x.reg) := fun d os => cell_regrown ((hb1.cell (p := ⟨b, o + 1, none⟩) hb).trans c1) d os
      have C2 : ∀ d os, (grow (redrawn w1 d) os).cell? ⟨b, o + 2, none⟩ = some (.int .i64 x.n) := fun d os => cell_regrown ((hb1.cell (p := ⟨b, o + 2, none⟩) hb).trans c2) d os
      have A0 : ∀ d os, (grow (redrawn w1 d) os).cell? ⟨w.heap.size, 0, none⟩ = some (.int .i64 1) := fun d os => cell_regrown ka.three.1 d os
      have A1 : ∀ d os, (grow (redrawn w1 d) os).cell? ⟨w.heap.size, 1, none⟩ = some (.int .i64 7) := fun d os => cell_regrown ka.three.2.1 d os
      have A2 : ∀ d os, (grow (redrawn w1 d) os).cell? ⟨w.heap.size, 2, none⟩ = some (.int .i64 0) := fun d os => cell_regrown ka.three.2.2.1 d os
      have hword := fun wx hT => wordSub_any s wx hT
      simp only [h1] at hword
      have HWORD := Lib.hid hword
      clear hword
      have KA := Lib.hid ka
      have HB1 := Lib.hid hb1
      have H1 := Lib.hid HW1
      clear ka hb1 HW1
      go_enter Tryz.func122, Tryz.ntmps122
      go_wp2
      rw [← hw1]
      have HE := Lib.hid hw1
      clear hw1
      refine wp_region_quiet_below (by kernel_rfl) (by kernel_rfl) ?_
      repeat (go_big_quiet_step (exact Calls.regrown_of (HWORD.out _ (HS.out _ _))))
      refine wpQuiet_nil ?_
      intro _ hw'
      obtain ⟨⟨dq, osq⟩, hw''⟩ := hw'
      subst hw''
      have HB2 : Hid (Below w1.heap.size w1 (grow (redrawn w1 dq) osq)) := below_regrown w1 dq osq
      generalize grow (redrawn w1 dq) osq = w2 at *
      have H2 : Hid (Wr w0 w2 bw s (.slice (some ⟨b, o, none⟩) 2 c) l) := H1.out.later HB2.out
      obtain ⟨e0, e1, f0, f1⟩ := H2.out.blk.two
      clear E0 E1 HS C0 C1 C2 A0 A1 A2
      cases h2 : inL wAdd s
      all_goals
        have hword := fun wx hT => wordAdd_any s wx hT
        simp only [h2] at hword
        have HWORD2 := Lib.hid hword
        clear hword
        go_wp2_with fail
        refine (HWORD2.out _ H2.out.spc).mono ?_
        rintro e w3 ⟨rfl, hb3⟩
        have H3 : Hid (Wr w0 w3 bw s (.slice (some ⟨b, o, none⟩) 2 c) l) := H2.out.later hb3
        have HB3 := Lib.hid hb3
        clear e0 e1 f0 f1 hb3
        obtain ⟨e0, e1, f0, f1⟩ := H3.out.blk.two
        go_wp2
        go_end0
        exact ⟨rfl, _, by rw [HV.out]; exact H3.out⟩
    · have HV := Lib.hid (show accum s l = [y] by rw [hl]; simp [accum, h1, h4])
      have HL := Lib.hid hl
      clear hl
      have hx : opdEq ⟨x.kind, x.reg, x.n⟩ ⟨1, 7, 0⟩ = true := h4
      obtain ⟨w1, hw1⟩ : ∃ w1 : World, w1 = w.alloc (.cells #[.int .i64 1, .int .i64 7, .int .i64 0] 87) := ⟨_, rfl⟩
      have hb1 : Below w.heap.size w w1 := hw1 ▸ (Below.refl _ _).alloc (Nat.le_refl _) _
      have ka : Blk w1 w.heap.size 87 #[.int .i64 1, .int .i64 7, .int .i64 0] := hw1 ▸ Blk.new w _ _
      have HW1 := h.later hb1
      have E0 : ∀ d os, (grow (redrawn w1 d) os).cell? ⟨bw, 0, none⟩ = some (.string s) := fun d os => cell_regrown HW1.blk.two.1 d os
      have E1 : ∀ d os, (grow (redrawn w1 d) os).cell? ⟨bw, 1, none⟩ = some (.slice (some ⟨b, o, none⟩) 2 c) := fun d os => cell_regrown HW1.blk.two.2.1 d os
      have HS : Hid (∀ d os, Spc (grow (redrawn w1 d) os)) := fun d os => HW1.spc.below (below_regrown w1 d os)
      have C0 : ∀ d os, (grow (redrawn w1 d) os).cell? ⟨b, o, none⟩ = some (.int .i64 x.kind) := fun d os => cell_regrown ((hb1.cell (p := ⟨b, o, none⟩) hb).trans c0) d os
      have C1 : ∀ d os, (grow (redrawn w1 d) os).cell? ⟨b, o + 1, none⟩ = some (.int .i64 x.reg) := fun d os => cell_regrown ((hb1.cell (p := ⟨b, o + 1, none⟩) hb).trans c1) d os
      have C2 : ∀ d os, (grow (redrawn w1 d) os).cell? ⟨b, o + 2, none⟩ = some (.int .i64 x.n) := fun d os => cell_regrown ((hb1.cell (p := ⟨b, o + 2, none⟩) hb).trans c2) d os
      have A0 : ∀ d os, (grow (redrawn w1 d) os).cell? ⟨w.heap.size, 0, none⟩ = some (.int .i64 1) := fun d os => cell_regrown ka.three.1 d os
      have A1 : ∀ d os, (grow (redrawn w1 d) os).cell? ⟨w.heap.size, 1, none⟩ = some (.int .i64 7) := fun d os => cell_regrown ka.three.2.1 d os
      have A2 : ∀ d os, (grow (redrawn w1 d) os).cell? ⟨w.heap.size, 2, none⟩ = some (.int .i64 0) := fun d os => cell_regrown ka.three.2.2.1 d os
      have hword := fun wx hT => wordSub_any s wx hT
      simp only [h1] at hword
      have HWORD := Lib.hid hword
      clear hword
      have KA := Lib.hid ka
      have HB1 := Lib.hid hb1
      have H1 := Lib.hid HW1
      clear ka hb1 HW1
      go_enter Tryz.func122, Tryz.ntmps122
      go_wp2
      rw [← hw1]
      have HE := Lib.hid hw1
      clear hw1
      refine wp_region_quiet_below (by kernel_rfl) (by kernel_rfl) ?_
      repeat (go_big_quiet_step (exact Calls.regrown_of (HWORD.out _ (HS.out _ _))))
      refine wpQuiet_nil ?_
      intro _ hw'
      obtain ⟨⟨dq, osq⟩, hw''⟩ := hw'
      subst hw''
      have HB2 : Hid (Below w1.heap.size w1 (grow (redrawn w1 dq) osq)) := below_regrown w1 dq osq
      generalize grow (redrawn w1 dq) osq = w2 at *
      have H2 : Hid (Wr w0 w2 bw s (.slice (some ⟨b, o, none⟩) 2 c) l) := H1.out.later HB2.out
      obtain ⟨e0, e1, f0, f1⟩ := H2.out.blk.two
      clear E0 E1 HS C0 C1 C2 A0 A1 A2
      go_wp2
      go_end0
      refine ⟨rfl, .slice (some ⟨b, o + 3, none⟩) 1 (c - 1), ?_⟩
      rw [HV.out]
      refine H2.out.set (OpdOwn.below (w := w1) (OpdOwn.below (w := w) ⟨_, _, rfl, ?_, ?_, fun i z hz => ?_⟩ HB1.out) HB2.out)
      · have := HC.out; simp; omega
      · have := HC.out; omega
      · match i, hz with
        | 0, hz =>
          simp at hz
          subst hz
          exact ⟨b, o + 3, rfl, hq, hb, DF.out⟩
        | i + 1, hz => simp at hz

set_option maxHeartbeats 2000000 in
theorem acc_one (w0 w : World) (bw : Nat) (s : ByteArray) (a : Option Addr) (n c : Nat) (x : Opd) (l : List Opd) (hl : l = [x]) (h : Wr w0 w bw s (.slice a n c) l) :
    Calls Tryz.prog 122 #[.pointer (some ⟨bw, 0, none⟩)] w fun e w' => e = .returned (.tuple #[]) ∧ ∃ v', Wr w0 w' bw s v' (accum s l) := by
  have hown := h.own
  obtain ⟨a', c', e', hc, hm, g⟩ := hown
  have hln : l.length = 1 := by rw [hl]; rfl
  injection e' with e1 e2 e3
  subst e1 e3
  obtain rfl : n = 1 := by rw [e2, hln]
  cases h2 : inL wAdd s
  · exact acc_none w0 w bw s a 1 c l h (by rw [hl]; simp [accum, h2]) (fun h => by rw [h2] at h; cases h) (fun _ => rfl)
  · have HV := Lib.hid (show accum s l = [regA, x] by rw [hl]; simp [accum, h2])
    obtain ⟨b, o, rfl, hq, hb, c0, c1, c2, _⟩ := g 0 x (by rw [hl]; rfl)
    simp only [Nat.zero_mul, Nat.add_zero] at c0 c1 c2
    have HX : Hid (w.cell? ⟨b, o, none⟩ = some (.int .i64 x.kind) ∧ w.cell? ⟨b, o + 1, none⟩ = some (.int .i64 x.reg) ∧ w.cell? ⟨b, o + 2, none⟩ = some (.int .i64 x.n)) := ⟨c0, c1, c2⟩
    have HBB := Lib.hid hb
    have HBN : Hid (b ≠ bw) := hq.2
    clear g hc hm e2 hln c0 c1 c2 hb hq
    have HL := Lib.hid hl
    clear hl
    cases h1 : inL wSub s
    all_goals
      obtain ⟨w1, hw1⟩ : ∃ w1 : World, w1 = w.alloc (.cells #[.int .i64 1, .int .i64 7, .int .i64 0] 87) := ⟨_, rfl⟩
      have hb1 : Below w.heap.size w w1 := hw1 ▸ (Below.refl _ _).alloc (Nat.le_refl _) _
      have ka : Blk w1 w.heap.size 87 #[.int .i64 1, .int .i64 7, .int .i64 0] := hw1 ▸ Blk.new w _ _
      have HW1 := h.later hb1
      have E0 : ∀ d os, (grow (redrawn w1 d) os).cell? ⟨bw, 0, none⟩ = some (.string s) := fun d os => cell_regrown HW1.blk.two.1 d os
      have E1 : ∀ d os, (grow (redrawn w1 d) os).cell? ⟨bw, 1, none⟩ = some (.slice (some ⟨b, o, none⟩) 1 c) := fun d os => cell_regrown HW1.blk.two.2.1 d os
      have HS : Hid (∀ d os, Spc (grow (redrawn w1 d) os)) := fun d os => HW1.spc.below (below_regrown w1 d os)
      have hword := fun wx hT => wordSub_any s wx hT
      simp only [h1] at hword
      have HWORD := Lib.hid hword
      clear hword
      have KA := Lib.hid ka
      have HB1 := Lib.hid hb1
      have H1 := Lib.hid HW1
      clear ka hb1 HW1
      go_enter Tryz.func122, Tryz.ntmps122
      go_wp2
      rw [← hw1]
      have HE := Lib.hid hw1
      clear hw1
      refine wp_region_quiet_below (by kernel_rfl) (by kernel_rfl) ?_
      repeat (go_big_quiet_step (exact Calls.regrown_of (HWORD.out _ (HS.out _ _))))
      refine wpQuiet_nil ?_
      intro _ hw'
      obtain ⟨⟨dq, osq⟩, hw''⟩ := hw'
      subst hw''
      have HB2 : Hid (Below w1.heap.size w1 (grow (redrawn w1 dq) osq)) := below_regrown w1 dq osq
      generalize grow (redrawn w1 dq) osq = w2 at *
      have H2 : Hid (Wr w0 w2 bw s (.slice (some ⟨b, o, none⟩) 1 c) l) := H1.out.later HB2.out
      obtain ⟨e0, e1, f0, f1⟩ := H2.out.blk.two
      clear E0 E1 HS
      have hword := fun wx hT => wordAdd_any s wx hT
      simp only [h2] at hword
      have HWORD2 := Lib.hid hword
      clear hword
      go_wp2_with fail
      refine (HWORD2.out _ H2.out.spc).mono ?_
      rintro e w3 ⟨rfl, hb3⟩
      have H3 : Hid (Wr w0 w3 bw s (.slice (some ⟨b, o, none⟩) 1 c) l) := H2.out.later hb3
      have HB3 := Lib.hid hb3
      clear e0 e1 f0 f1 hb3
      obtain ⟨e0, e1, f0, f1⟩ := H3.out.blk.two
      have hbb := HBB.out
      have c0 := (HB3.out.cell (p := ⟨b, o, none⟩) (Nat.lt_of_lt_of_le (Nat.lt_of_lt_of_le hbb HB1.out.size) HB2.out.size)).trans ((HB2.out.cell (p := ⟨b, o, none⟩) (Nat.lt_of_lt_of_le hbb HB1.out.size)).trans ((HB1.out.cell (p := ⟨b, o, none⟩) hbb).trans HX.out.1))
      have c1 := (HB3.out.cell (p := ⟨b, o + 1, none⟩) (Nat.lt_of_lt_of_le (Nat.lt_of_lt_of_le hbb HB1.out.size) HB2.out.size)).trans ((HB2.out.cell (p := ⟨b, o + 1, none⟩) (Nat.lt_of_lt_of_le hbb HB1.out.size)).trans ((HB1.out.cell (p := ⟨b, o + 1, none⟩) hbb).trans HX.out.2.1))
      have c2 := (HB3.out.cell (p := ⟨b, o + 2, none⟩) (Nat.lt_of_lt_of_le (Nat.lt_of_lt_of_le hbb HB1.out.size) HB2.out.size)).trans ((HB2.out.cell (p := ⟨b, o + 2, none⟩) (Nat.lt_of_lt_of_le hbb HB1.out.size)).trans ((HB1.out.cell (p := ⟨b, o + 2, none⟩) hbb).trans HX.out.2.2))
      have kk := (KA.out.below HB2.out KA.out.lt).below HB3.out (Nat.lt_of_lt_of_le KA.out.lt HB2.out.size)
      obtain ⟨k0, k1, k2, _, _, _⟩ := kk.three
      have hne : bw < w3.heap.size := H3.out.blk.lt
      clear hbb kk
      go_wp2
      go_region
      all_goals go_wp2
      all_goals go_end0
      all_goals
        refine ⟨rfl, .slice (some ⟨w3.heap.size, 0, none⟩) 2 2, ?_⟩
        rw [HV.out]
        exact H3.out.setNew _ (by simp [regA, Opd.cells])

theorem acc_any (w0 w : World) (bw : Nat) (s : ByteArray) (v : Value) (l : List Opd) (h : Wr w0 w bw s v l) :
    Calls Tryz.prog 122 #[.pointer (some ⟨bw, 0, none⟩)] w fun e w' => e = .returned (.tuple #[]) ∧ ∃ v', Wr w0 w' bw s v' (accum s l) := by
  obtain ⟨a, c, rfl, _⟩ := h.own
  match l, h with
  | [], h => exact acc_none w0 w bw s a _ c _ h rfl (fun _ => rfl) (fun _ => rfl)
  | [x], h => exact acc_one w0 w bw s a _ c x _ rfl h
  | [x, y], h => exact acc_two w0 w bw s a _ c x y _ rfl h
  | x :: y :: z :: l, h => exact acc_none w0 w bw s a _ c _ h rfl (fun _ => by simp; omega) (fun _ => by simp; omega)
end Go.Proofs.YtlepicdjnbbndaaGreatDoor

/-
  slices.Reverse at two operands in a row of the call's own. Conditions: none.
-/
namespace Go.Proofs.YtlepicdjnbbndaaGreatDoor
open Go.RowKit

/-- stores into block b, one behind the other -/
def setL (w : World) (b : Nat) : List (Nat × Value) → World
  | [] => w
  | p :: l => setL (w.setCell ⟨b, p.1, none⟩ p.2) b l
def look (j : Nat) (v : Value) : List (Nat × Value) → Value
  | [] => v
  | p :: l => look j (if p.1 = j then p.2 else v) l
theorem setL_below {w0 : World} {B b : Nat} (hB : B ≤ b) : ∀ (l : List (Nat × Value)) {w : World}, Below B w0 w → Below B w0 (setL w b l)
  | [], _, h => h
  | p :: l, _, h => setL_below hB l (h.setCell (p := ⟨b, p.1, none⟩) hB _)
theorem setL_keep {b k : Nat} (hk : k ≠ b) : ∀ (l : List (Nat × Value)) (w : World), (setL w b l).heap[k]? = w.heap[k]?
  | [], _ => rfl
  | _ :: l, _ => (setL_keep hk l _).trans (Below.heap_setCell _ _ _ _ hk)
theorem setL_size {b : Nat} : ∀ (l : List (Nat × Value)) (w : World), (setL w b l).heap.size = w.heap.size
  | [], _ => rfl
  | _ :: l, _ => (setL_size l _).trans (by simp [World.setCell])
theorem setL_frozen {b : Nat} (a : Addr) : ∀ (l : List (Nat × Value)) (w : World), (setL w b l).frozen? a = w.frozen? a
  | [], _ => rfl
  | _ :: l, _ => (setL_frozen a l _).trans (World.frozen?_setCell _ _ _ _)
theorem setL_cell {b j : Nat} : ∀ (l : List (Nat × Value)) {w : World} {v : Value}, w.cell? ⟨b, j, none⟩ = some v → (setL w b l).cell? ⟨b, j, none⟩ = some (look j v l)
  | [], _, _, h => h
  | p :: l, w, v, h => setL_cell l (by
      by_cases he : p.1 = j
      · subst he; rw [if_pos rfl]; exact World.cell?_setCell_same' _ _ _ (by rw [h]; rfl)
      · rw [if_neg he, World.cell?_setCell_other _ _ _ _ (by simp)]; exact h)
/-- two operands exchanged in their row -/
def swaps (o : Nat) (x y : Opd) : List (Nat × Value) :=
  [(o, .int .i64 y.kind), (o + 1, .int .i64 y.reg), (o + 2, .int .i64 y.n), (o + 3, .int .i64 x.kind), (o + 3 + 1, .int .i64 x.reg), (o + 3 + 2, .int .i64 x.n)]

set_option maxHeartbeats 4000000 in
theorem Reverse_two (b o c : Nat) (x y : Opd) (w : World) (c0 : w.cell? ⟨b, o, none⟩ = some (.int .i64 x.kind)) (c1 : w.cell? ⟨b, o + 1, none⟩ = some (.int .i64 x.reg)) (c2 : w.cell? ⟨b, o + 2, none⟩ = some (.int .i64 x.n))
    (d0 : w.cell? ⟨b, o + 3, none⟩ = some (.int .i64 y.kind)) (d1 : w.cell? ⟨b, o + 3 + 1, none⟩ = some (.int .i64 y.reg)) (d2 : w.cell? ⟨b, o + 3 + 2, none⟩ = some (.int .i64 y.n)) (hf : ∀ j, w.frozen? ⟨b, j, none⟩ = false) :
    Calls Tryz.prog 162 #[.slice (some ⟨b, o, none⟩) 2 c] w fun e w' => e = .returned (.tuple #[]) ∧ (setL w b (swaps o x y)).drew = w' := by
  go_enter Tryz.func162, Tryz.ntmps162
  go_wp2
  refine wp_loop_rounds 2 ?_
  rw [rounds_succ]
  go_wp2
  go_region
  all_goals go_wp2
  all_goals rw [rounds_succ]
  all_goals go_wp2
  all_goals go_end0
  all_goals exact ⟨rfl, rfl⟩
theorem swap_own {w : World} {q : Blocks} {b o c : Nat} {x y : Opd} (h : OpdOwn w q (.slice (some ⟨b, o, none⟩) 2 c) [x, y]) : OpdOwn (setL w b (swaps o x y)) q (.slice (some ⟨b, o, none⟩) 2 c) [y, x] := by
  obtain ⟨a', c', e, h1, h2, h3⟩ := h
  injection e with e1 e2 e3
  subst e1 e3
  obtain ⟨b', o', eb, hq, hb, c0, c1, c2, f⟩ := h3 0 x rfl
  injection eb with eb
  injection eb with eb1 eb2
  subst eb1 eb2
  obtain ⟨b', o', eb, _, _, d0, d1, d2, _⟩ := h3 1 y rfl
  injection eb with eb
  injection eb with eb1 eb2
  subst eb1 eb2
  simp only [Nat.zero_mul, Nat.add_zero, Nat.one_mul] at c0 c1 c2 d0 d1 d2
  have hfr : ∀ j, (setL w b (swaps o x y)).frozen? ⟨b, j, none⟩ = false := fun j => (setL_frozen _ _ _).trans (f j)
  have e0 := (setL_cell (swaps o x y) c0).trans (congrArg some (show _ = Value.int .i64 y.kind by simp only [swaps, look]; repeat first | rw [if_pos rfl] | rw [if_pos trivial] | rw [if_neg (by omega)]))
  have e1 := (setL_cell (swaps o x y) c1).trans (congrArg some (show _ = Value.int .i64 y.reg by simp only [swaps, look]; repeat first | rw [if_pos rfl] | rw [if_pos trivial] | rw [if_neg (by omega)]))
  have e2 := (setL_cell (swaps o x y) c2).trans (congrArg some (show _ = Value.int .i64 y.n by simp only [swaps, look]; repeat first | rw [if_pos rfl] | rw [if_pos trivial] | rw [if_neg (by omega)]))
  have g0 := (setL_cell (swaps o x y) d0).trans (congrArg some (show _ = Value.int .i64 x.kind by simp only [swaps, look]; repeat first | rw [if_pos rfl] | rw [if_pos trivial] | rw [if_neg (by omega)]))
  have g1 := (setL_cell (swaps o x y) d1).trans (congrArg some (show _ = Value.int .i64 x.reg by simp only [swaps, look]; repeat first | rw [if_pos rfl] | rw [if_pos trivial] | rw [if_neg (by omega)]))
  have g2 := (setL_cell (swaps o x y) d2).trans (congrArg some (show _ = Value.int .i64 x.n by simp only [swaps, look]; repeat first | rw [if_pos rfl] | rw [if_pos trivial] | rw [if_neg (by omega)]))
  have hsz : b < (setL w b (swaps o x y)).heap.size := by rw [setL_size]; exact hb
  refine ⟨_, c, rfl, h1, h2, fun i z hz => ?_⟩
  match i, hz with
  | 0, hz =>
    simp at hz
    subst hz
    refine ⟨b, o, rfl, hq, hsz, ?_, ?_, ?_, hfr⟩
    · rw [Nat.zero_mul, Nat.add_zero]; exact e0
    · rw [Nat.zero_mul, Nat.add_zero]; exact e1
    · rw [Nat.zero_mul, Nat.add_zero]; exact e2
  | 1, hz =>
    simp at hz
    subst hz
    refine ⟨b, o, rfl, hq, hsz, ?_, ?_, ?_, hfr⟩
    · rw [Nat.one_mul]; exact g0
    · rw [Nat.one_mul]; exact g1
    · rw [Nat.one_mul]; exact g2
  | i + 2, hz => simp at hz
end Go.Proofs.YtlepicdjnbbndaaGreatDoor

/-
  canon: the order of EX's operands. Conditions: the library's table of white space as its initialiser lays it.
-/
namespace Go.Proofs.YtlepicdjnbbndaaGreatDoor
open Go.RowKit Go.Sort

theorem Wr.drewN {w0 w : World} {bw : Nat} {s : ByteArray} {v : Value} {l : List Opd} (h : Wr w0 w bw s v l) (n : Nat) : Wr w0 (w.drewN n) bw s v l := h.later ⟨rfl, rfl, rfl, Nat.le_refl _, fun _ _ => rfl⟩
theorem Wr.drew {w0 w : World} {bw : Nat} {s : ByteArray} {v : Value} {l : List Opd} (h : Wr w0 w bw s v l) : Wr w0 w.drew bw s v l := h.later ⟨rfl, rfl, rfl, Nat.le_refl _, fun _ _ => rfl⟩
theorem Wr.alloc {w0 w : World} {bw : Nat} {s : ByteArray} {v : Value} {l : List Opd} (h : Wr w0 w bw s v l) (o : Obj) : Wr w0 (w.alloc o) bw s v l := h.later ((Below.refl _ _).alloc (Nat.le_refl _) o)
theorem Wr.swap {w0 w : World} {bw b o c : Nat} {s : ByteArray} {x y : Opd} (h : Wr w0 w bw s (.slice (some ⟨b, o, none⟩) 2 c) [x, y]) (hq : w0.heap.size ≤ b ∧ b ≠ bw) : Wr w0 (setL w b (swaps o x y)) bw s (.slice (some ⟨b, o, none⟩) 2 c) [y, x] :=
  ⟨(setL_keep (Ne.symm hq.2) _ _).trans h.blk, swap_own h.own, h.old, setL_below hq.1 _ h.below, h.spc0⟩
def opHL : Opd := ⟨3, 2, 0⟩
def opDE : Opd := ⟨3, 1, 0⟩
def exch (s : ByteArray) (l : List Opd) : List Opd := if (s.toList == [69, 88]) && decide (l = [opHL, opDE]) then [opDE, opHL] else l

set_option maxHeartbeats 1000000 in
theorem exch_any (w0 w : World) (bw : Nat) (s : ByteArray) (v : Value) (l : List Opd) (h : Wr w0 w bw s v l) :
    Calls Tryz.prog 123 #[.pointer (some ⟨bw, 0, none⟩)] w fun e w' => e = .returned (.tuple #[]) ∧ ∃ v', Wr w0 w' bw s v' (exch s l) := by
  obtain ⟨a, c, rfl, hc, hm, g⟩ := h.own
  have HB : Below w.heap.size w ((w.alloc (.cells #[.int .i64 3, .int .i64 2, .int .i64 0] 87)).alloc (.cells #[.int .i64 3, .int .i64 1, .int .i64 0] 87)) := ((Below.refl _ _).alloc (Nat.le_refl _) _).alloc (by simp) _
  have H1 := Lib.hid (h.later HB)
  obtain ⟨e0, e1, f0, f1⟩ := H1.out.blk.two
  have hbw := h.blk.lt
  cases h1 : (s.toList == [69, 88])
  · have HV := Lib.hid (show exch s l = l by simp [exch, h1])
    clear g hc hm
    go_enter Tryz.func123, Tryz.ntmps123
    go_wp2
    go_quiet (fail)
    go_wp2
    go_end0
    exact ⟨rfl, _, by rw [HV.out]; exact H1.out.drewN nq⟩
  · clear g hc hm
    obtain ⟨W, hW⟩ : ∃ W : World, W = ((w.alloc (.cells #[.int .i64 3, .int .i64 2, .int .i64 0] 87)).alloc (.cells #[.int .i64 3, .int .i64 1, .int .i64 0] 87)) := ⟨_, rfl⟩
    have k1 : Blk W w.heap.size 87 #[.int .i64 3, .int .i64 2, .int .i64 0] := hW ▸ (Blk.new w _ _).alloc _
    have k2 : Blk W (w.heap.size + 1) 87 #[.int .i64 3, .int .i64 1, .int .i64 0] := by rw [hW]; exact (by simpa using Blk.new (w.alloc (.cells #[.int .i64 3, .int .i64 2, .int .i64 0] 87)) 87 #[.int .i64 3, .int .i64 1, .int .i64 0])
    obtain ⟨a0, a1, a2, _⟩ := k1.three
    obtain ⟨b0, b1, b2, _⟩ := k2.three
    rw [← hW] at H1 e0 e1 f0 f1
    have hbW : bw < W.heap.size := H1.out.blk.lt
    have HSA : Hid (SlR opdR ((W.alloc (.cells #[.int .i64 3, .int .i64 2, .int .i64 0, .int .i64 3, .int .i64 1, .int .i64 0] 87)).drew) (fun _ => True) (.slice a l.length c) l) := ((H1.out.own.slR.alloc _).drew).mono (fun _ _ => trivial)
    have HSB : Hid (SlR opdR ((W.alloc (.cells #[.int .i64 3, .int .i64 2, .int .i64 0, .int .i64 3, .int .i64 1, .int .i64 0] 87)).drew) (fun _ => True) (.slice (some ⟨W.heap.size, 0, none⟩) 2 2) [opHL, opDE]) :=
      (opdOwn_new (q := fun _ => True) [opHL, opDE] #[.int .i64 3, .int .i64 2, .int .i64 0, .int .i64 3, .int .i64 1, .int .i64 0] 87 W.heap.size 2 rfl rfl (by simp [opHL, opDE, Opd.cells]) trivial (by simp)).slR.drew
    have hw2 : (∃ wx : World, wx = W) := ⟨W, rfl⟩
    have hcall := EqualOpd_any _ _ _ _ _ _ _ HSA.out HSB.out
    cases h2 : decide (l = [opHL, opDE])
    all_goals
      simp only [h2] at hcall
      have HCALL := Lib.hid hcall
      clear hcall hw2
      have HW := Lib.hid hW
      go_enter Tryz.func123, Tryz.ntmps123
      go_wp2
      rw [← hW]
      have hs1 : w.heap.size < W.heap.size := k1.lt
      have hs2 : w.heap.size + 1 < W.heap.size := k2.lt
      have H2 := Lib.hid h2
      clear hW k1 k2 HB h2
      go_region_held3 (fun w' => w'.cell? ⟨bw, 0, none⟩ = some (.string s) ∧ w'.cell? ⟨bw, 1, none⟩ = some (.slice a l.length c) ∧ w'.cell? ⟨w.heap.size, 0, none⟩ = some (.int .i64 3) ∧ w'.cell? ⟨w.heap.size, 1, none⟩ = some (.int .i64 2) ∧ w'.cell? ⟨w.heap.size, 2, none⟩ = some (.int .i64 0) ∧ w'.cell? ⟨w.heap.size + 1, 0, none⟩ = some (.int .i64 3) ∧ w'.cell? ⟨w.heap.size + 1, 1, none⟩ = some (.int .i64 1) ∧ w'.cell? ⟨w.heap.size + 1, 2, none⟩ = some (.int .i64 0)) (go_keep)
        (first | (go_at_call 160; refine HCALL.out.mono ?_; rintro e w' ⟨rfl, nq, rfl⟩))
    · go_wp2
      go_end0
      have HV : exch s l = l := by simp [exch, of_decide_eq_false H2.out]
      exact ⟨rfl, _, by rw [HV]; exact (H1.out.alloc _).drewN _⟩
    · go_wp2_with fail
      have HX := Lib.hid ((H1.out.alloc (.cells #[.int .i64 3, .int .i64 2, .int .i64 0, .int .i64 3, .int .i64 1, .int .i64 0] 87)).drewN (1 + nq))
      clear HCALL HSA HSB
      generalize (W.alloc (.cells #[.int .i64 3, .int .i64 2, .int .i64 0, .int .i64 3, .int .i64 1, .int .i64 0] 87)).drewN (1 + nq) = W3 at *
      have HV : Hid (exch s l = [opDE, opHL]) := by have := of_decide_eq_true H2.out; exact Lib.hid (by rw [this]; simp [exch, h1])
      obtain rfl : l = [opHL, opDE] := of_decide_eq_true H2.out
      obtain ⟨a', c', e', _, _, g⟩ := HX.out.own
      injection e' with e1' _ e3'
      subst e1' e3'
      obtain ⟨b, o, rfl, hq, _, c0, c1, c2, fr⟩ := g 0 opHL rfl
      obtain ⟨b', o', eb, _, _, d0, d1, d2, _⟩ := g 1 opDE rfl
      injection eb with eb
      injection eb with eb1 eb2
      subst eb1 eb2
      rw [Nat.zero_mul, Nat.add_zero] at c0 c1 c2
      rw [Nat.one_mul] at d0 d1 d2
      refine (Reverse_two b o c opHL opDE W3 c0 c1 c2 d0 d1 d2 fr).mono ?_
      rintro e w' ⟨rfl, rfl⟩
      clear c0 c1 c2 d0 d1 d2 fr g
      go_wp2
      go_end0
      refine ⟨rfl, .slice (some ⟨b, o, none⟩) 2 c, ?_⟩
      rw [HV.out]
      exact (HX.out.swap hq).drew
end Go.Proofs.YtlepicdjnbbndaaGreatDoor

/-
  canon.Width. Conditions: the library's table of white space as its initialiser lays it.
-/
namespace Go.Proofs.YtlepicdjnbbndaaGreatDoor
open Go.RowKit

/-- JP CALL -/
def wJp : List ByteArray := [⟨#[74, 80]⟩, ⟨#[67, 65, 76, 76]⟩]
theorem wZero_fields : fieldsOf ⟨#[66, 73, 84, 32, 82, 69, 83, 32, 83, 69, 84, 32, 73, 77, 32, 82, 83, 84, 32, 79, 85, 84]⟩ = wZero := by decide +kernel
theorem wJp_fields : fieldsOf ⟨#[74, 80, 32, 67, 65, 76, 76]⟩ = wJp := by decide +kernel
theorem wZero_ascii : ∀ (j : Nat) b, (⟨#[66, 73, 84, 32, 82, 69, 83, 32, 83, 69, 84, 32, 73, 77, 32, 82, 83, 84, 32, 79, 85, 84]⟩ : ByteArray).data.toList[j]? = some b → b.toNat < 128 := fun _ b h =>
  (by decide +kernel : ∀ x ∈ (⟨#[66, 73, 84, 32, 82, 69, 83, 32, 83, 69, 84, 32, 73, 77, 32, 82, 83, 84, 32, 79, 85, 84]⟩ : ByteArray).data.toList, x.toNat < 128) b (List.mem_of_getElem? h)
theorem wJp_ascii : ∀ (j : Nat) b, (⟨#[74, 80, 32, 67, 65, 76, 76]⟩ : ByteArray).data.toList[j]? = some b → b.toNat < 128 := fun _ b h =>
  (by decide +kernel : ∀ x ∈ (⟨#[74, 80, 32, 67, 65, 76, 76]⟩ : ByteArray).data.toList, x.toNat < 128) b (List.mem_of_getElem? h)
theorem wordZero_any (s : ByteArray) (w : World) (hT : Spc w) : Calls Tryz.prog 161 #[.string ⟨#[66, 73, 84, 32, 82, 69, 83, 32, 83, 69, 84, 32, 73, 77, 32, 82, 83, 84, 32, 79, 85, 84]⟩, .string s] w fun e w' => e = .returned (.bool (inL wZero s)) ∧ Below w.heap.size w w' :=
  word_any _ wZero s w wZero_fields (by decide) (by decide) wZero_ascii hT
theorem wordJp_any (s : ByteArray) (w : World) (hT : Spc w) : Calls Tryz.prog 161 #[.string ⟨#[74, 80, 32, 67, 65, 76, 76]⟩, .string s] w fun e w' => e = .returned (.bool (inL wJp s)) ∧ Below w.heap.size w w' :=
  word_any _ wJp s w wJp_fields (by decide) (by decide) wJp_ascii hT
theorem toList_mk (l : List UInt8) : (⟨l.toArray⟩ : ByteArray).toList = l := by rw [Go.ByteArray.toList_eq]
theorem inL_jp (s : ByteArray) : inL wJp s = ((s.toList == [74, 80]) || (s.toList == [67, 65, 76, 76])) := by
  have e1 : (⟨#[74, 80]⟩ : ByteArray).toList = [74, 80] := toList_mk _
  have e2 : (⟨#[67, 65, 76, 76]⟩ : ByteArray).toList = [67, 65, 76, 76] := toList_mk _
  simp only [inL, wJp, List.any_cons, List.any_nil, Bool.or_false, e1, e2]
  rw [Bool.beq_comm, Bool.beq_comm (a := [67, 65, 76, 76])]

set_option maxHeartbeats 2000000 in
theorem Width_any (p : Blocks) (x : Ins) (v : Value) (w : World) (h : SlR opdR w p v x.args) (hT : Spc w) :
    Calls Tryz.prog 163 #[.agg #[.string x.op, v]] w fun e w' => e = .returned (.int .i64 (width x)) ∧ Below w.heap.size w w' := by
  obtain ⟨s, l⟩ := x
  dsimp only at h
  obtain ⟨a, c, rfl, hc, hm, g⟩ := h.opd
  clear h
  have HSP := Lib.hid hT
  clear hT
  have HB0 : Hid (Below w.heap.size w (w.alloc (.cells #[.string s, .slice a l.length c] 25))) := (Below.refl _ _).alloc (Nat.le_refl _) _
  have HK0 : Hid (Blk (w.alloc (.cells #[.string s, .slice a l.length c] 25)) w.heap.size 25 #[.string s, .slice a l.length c]) := Blk.new w _ _
  have hzw := fun wx hT => wordZero_any s wx hT
  have hjw := fun wx hT => wordJp_any s wx hT
  cases hz : inL wZero s
  all_goals
    simp only [hz] at hzw
    have HZ := Lib.hid hzw
    clear hzw
  · cases hj : inL wJp s
    all_goals
      simp only [hj] at hjw
      have HJ := Lib.hid hjw
      have hjp := inL_jp s
      rw [hj] at hjp
      clear hjw
    · obtain ⟨h1, h2⟩ := Bool.or_eq_false_iff.1 hjp.symm
      clear hjp
      cases h3 : (s.toList == [76, 68])
      · clear g
        have HV := Lib.hid (show width ⟨s, l⟩ = 1 by simp [width, hz, h1, h2, h3])
        go_enter Tryz.func163, Tryz.ntmps163
        go_wp2_with fail
        refine (HZ.out _ (HSP.out.below HB0.out)).mono ?_
        rintro e w1 ⟨rfl, hb1⟩
        have HB1 := Lib.hid hb1
        have HK1 := Lib.hid (HK0.out.below hb1 HK0.out.lt)
        obtain ⟨e0, e1, _, _⟩ := HK1.out.two
        clear hb1
        go_wp2_with fail
        refine (HJ.out _ ((HSP.out.below HB0.out).below HB1.out)).mono ?_
        rintro e w2 ⟨rfl, hb2⟩
        have HB2 := Lib.hid hb2
        have HK2 := Lib.hid (HK1.out.below hb2 HK1.out.lt)
        clear e0 e1 hb2
        obtain ⟨e0, e1, _, _⟩ := HK2.out.two
        go_wp2
        go_ret
        exact ⟨ret_int HV.out.symm, (HB0.out.trans (HB1.out.mono HB0.out.size)).trans (HB2.out.mono (Nat.le_trans HB0.out.size HB1.out.size))⟩
      · cases l with
        | nil =>
          clear g
          have HV := Lib.hid (show width ⟨s, []⟩ = 1 by simp [width, hz, h1, h2, h3, head3])
          go_enter Tryz.func163, Tryz.ntmps163
          go_wp2_with fail
          refine (HZ.out _ (HSP.out.below HB0.out)).mono ?_
          rintro e w1 ⟨rfl, hb1⟩
          have HB1 := Lib.hid hb1
          have HK1 := Lib.hid (HK0.out.below hb1 HK0.out.lt)
          obtain ⟨e0, e1, _, _⟩ := HK1.out.two
          clear hb1
          go_wp2_with fail
          refine (HJ.out _ ((HSP.out.below HB0.out).below HB1.out)).mono ?_
          rintro e w2 ⟨rfl, hb2⟩
          have HB2 := Lib.hid hb2
          have HK2 := Lib.hid (HK1.out.below hb2 HK1.out.lt)
          clear e0 e1 hb2
          obtain ⟨e0, e1, _, _⟩ := HK2.out.two
          go_wp2
          go_ret
          exact ⟨ret_int HV.out.symm, (HB0.out.trans (HB1.out.mono HB0.out.size)).trans (HB2.out.mono (Nat.le_trans HB0.out.size HB1.out.size))⟩
        | cons x l =>
          obtain ⟨b, o, rfl, _, d1, d2, d3⟩ := g 0 x rfl
          clear g
          simp only [Nat.zero_mul, Nat.add_zero] at d1
          clear d2 d3
          have hbl : b < w.heap.size := World.block_lt_of_cell? w _ d1
          have hk0 : (0 : Int) < ((x :: l).length : Int) := by simp
          have hk1 : 0 < (x :: l).length := by simp
          cases h4 : (x.kind == 3)
          · have HV := Lib.hid (show width ⟨s, x :: l⟩ = 1 by simp [width, hz, h1, h2, h3, head3, h4])
            generalize (x :: l).length = n at *
            go_enter Tryz.func163, Tryz.ntmps163
            go_wp2_with fail
            refine (HZ.out _ (HSP.out.below HB0.out)).mono ?_
            rintro e w1 ⟨rfl, hb1⟩
            have HB1 := Lib.hid hb1
            have HK1 := Lib.hid (HK0.out.below hb1 HK0.out.lt)
            obtain ⟨e0, e1, _, _⟩ := HK1.out.two
            clear hb1
            go_wp2_with fail
            refine (HJ.out _ ((HSP.out.below HB0.out).below HB1.out)).mono ?_
            rintro e w2 ⟨rfl, hb2⟩
            have HB2 := Lib.hid hb2
            have HK2 := Lib.hid (HK1.out.below hb2 HK1.out.lt)
            clear e0 e1 hb2
            obtain ⟨e0, e1, _, _⟩ := HK2.out.two
            have d1' := (HB2.out.cell (p := ⟨b, o, none⟩) (Nat.lt_of_lt_of_le (Nat.lt_of_lt_of_le hbl HB0.out.size) HB1.out.size)).trans ((HB1.out.cell (p := ⟨b, o, none⟩) (Nat.lt_of_lt_of_le hbl HB0.out.size)).trans ((HB0.out.cell (p := ⟨b, o, none⟩) hbl).trans d1))
            go_wp2
            go_ret
            exact ⟨ret_int HV.out.symm, (HB0.out.trans (HB1.out.mono HB0.out.size)).trans (HB2.out.mono (Nat.le_trans HB0.out.size HB1.out.size))⟩
          · have HV := Lib.hid (show width ⟨s, x :: l⟩ = 2 by simp [width, hz, h1, h2, h3, head3, h4])
            generalize (x :: l).length = n at *
            go_enter Tryz.func163, Tryz.ntmps163
            go_wp2_with fail
            refine (HZ.out _ (HSP.out.below HB0.out)).mono ?_
            rintro e w1 ⟨rfl, hb1⟩
            have HB1 := Lib.hid hb1
            have HK1 := Lib.hid (HK0.out.below hb1 HK0.out.lt)
            obtain ⟨e0, e1, _, _⟩ := HK1.out.two
            clear hb1
            go_wp2_with fail
            refine (HJ.out _ ((HSP.out.below HB0.out).below HB1.out)).mono ?_
            rintro e w2 ⟨rfl, hb2⟩
            have HB2 := Lib.hid hb2
            have HK2 := Lib.hid (HK1.out.below hb2 HK1.out.lt)
            clear e0 e1 hb2
            obtain ⟨e0, e1, _, _⟩ := HK2.out.two
            have d1' := (HB2.out.cell (p := ⟨b, o, none⟩) (Nat.lt_of_lt_of_le (Nat.lt_of_lt_of_le hbl HB0.out.size) HB1.out.size)).trans ((HB1.out.cell (p := ⟨b, o, none⟩) (Nat.lt_of_lt_of_le hbl HB0.out.size)).trans ((HB0.out.cell (p := ⟨b, o, none⟩) hbl).trans d1))
            go_wp2
            go_ret
            exact ⟨ret_int HV.out.symm, (HB0.out.trans (HB1.out.mono HB0.out.size)).trans (HB2.out.mono (Nat.le_trans HB0.out.size HB1.out.size))⟩
    · clear g
      have HV := Lib.hid (show width ⟨s, l⟩ = 2 by
        have e : ((s.toList == [74, 80]) || (s.toList == [67, 65, 76, 76])) = true := hjp.symm
        simp only [width, hz, e, Bool.true_or, if_true]; rfl)
      clear hjp
      go_enter Tryz.func163, Tryz.ntmps163
      go_wp2_with fail
      refine (HZ.out _ (HSP.out.below HB0.out)).mono ?_
      rintro e w1 ⟨rfl, hb1⟩
      have HB1 := Lib.hid hb1
      have HK1 := Lib.hid (HK0.out.below hb1 HK0.out.lt)
      obtain ⟨e0, e1, _, _⟩ := HK1.out.two
      clear hb1
      go_wp2_with fail
      refine (HJ.out _ ((HSP.out.below HB0.out).below HB1.out)).mono ?_
      rintro e w2 ⟨rfl, hb2⟩
      have HB2 := Lib.hid hb2
      have HK2 := Lib.hid (HK1.out.below hb2 HK1.out.lt)
      clear e0 e1 hb2
      obtain ⟨e0, e1, _, _⟩ := HK2.out.two
      go_wp2
      go_ret
      exact ⟨ret_int HV.out.symm, (HB0.out.trans (HB1.out.mono HB0.out.size)).trans (HB2.out.mono (Nat.le_trans HB0.out.size HB1.out.size))⟩
  · clear g hjw
    have HV := Lib.hid (show width ⟨s, l⟩ = 0 by simp [width, hz])
    go_enter Tryz.func163, Tryz.ntmps163
    go_wp2_with fail
    refine (HZ.out _ (HSP.out.below HB0.out)).mono ?_
    rintro e w1 ⟨rfl, hb1⟩
    have HB1 := Lib.hid hb1
    have HK1 := Lib.hid (HK0.out.below hb1 HK0.out.lt)
    obtain ⟨e0, e1, _, _⟩ := HK1.out.two
    clear hb1
    go_wp2
    go_ret
    exact ⟨ret_int HV.out.symm, HB0.out.trans (HB1.out.mono HB0.out.size)⟩
end Go.Proofs.YtlepicdjnbbndaaGreatDoor

/-
  canon: numbers made positive. Conditions: the library's table of white space as its initialiser lays it.
-/
namespace Go.Proofs.YtlepicdjnbbndaaGreatDoor
open Go.RowKit

/-- a number made positive, the size being sz -/
def numb (sz : Int) (o : Opd) : Opd := if o.kind = 6 ∧ o.n < 0 ∧ -(sz / 2) ≤ o.n ∧ 1 < sz then { o with n := o.n + sz } else o
def sizeOfW (w : Int) : Int := if w = 2 then 65536 else if w = 1 then 256 else 1
theorem width_cases (x : Ins) : width x = 0 ∨ width x = 1 ∨ width x = 2 := by
  unfold width
  split
  · exact .inl rfl
  · split
    · exact .inr (.inr rfl)
    · exact .inr (.inl rfl)
/-- the first k made positive -/
def part (sz : Int) (l : List Opd) (k : Nat) : List Opd := (l.take k).map (numb sz) ++ l.drop k
theorem part_zero (sz : Int) (l : List Opd) : part sz l 0 = l := by simp [part]
theorem part_all (sz : Int) (l : List Opd) (k : Nat) (h : l.length ≤ k) : part sz l k = l.map (numb sz) := by simp [part, List.take_of_length_le h, List.drop_of_length_le h]
theorem part_len (sz : Int) (l : List Opd) (k : Nat) : (part sz l k).length = l.length := by simp [part]; omega
theorem part_at (sz : Int) (l : List Opd) (k : Nat) (h : k < l.length) : (part sz l k)[k]? = some l[k] := by
  unfold part
  rw [List.getElem?_append_right (by simp; omega)]
  simp [Nat.min_eq_left (Nat.le_of_lt h)]
theorem part_succ (sz : Int) (l : List Opd) (k : Nat) (h : k < l.length) : part sz l (k + 1) = (part sz l k).set k (numb sz l[k]) := by
  unfold part
  rw [List.set_append_right _ _ (by simp; omega), List.take_succ_eq_append_getElem h]
  simp only [List.length_map, List.length_take, Nat.min_eq_left (Nat.le_of_lt h), Nat.sub_self, List.map_append, List.map_cons, List.map_nil, List.append_assoc]
  rw [List.drop_eq_getElem_cons h]
  rfl
theorem part_same (sz : Int) (l : List Opd) (k : Nat) (h : k < l.length) (hn : numb sz l[k] = l[k]) : part sz l (k + 1) = part sz l k := by
  rw [part_succ sz l k h, hn]
  refine List.ext_getElem? fun i => ?_
  by_cases hi : k = i
  · subst hi
    rw [part_at sz l k h, List.getElem?_set_self (by rw [part_len]; exact h)]
  · rw [List.getElem?_set_ne hi]

/-- One operand's number is written. -/
theorem OpdOwn.setN {w : World} {q : Blocks} {b o n c : Nat} {l : List Opd} {k : Nat} {x : Opd} {m : Int} (h : OpdOwn w q (.slice (some ⟨b, o, none⟩) n c) l) (hx : l[k]? = some x) : OpdOwn (w.setCell ⟨b, o + k * 3 + 2, none⟩ (.int .i64 m)) q (.slice (some ⟨b, o, none⟩) n c) (l.set k { x with n := m }) := by
  obtain ⟨a, cap, e, h1, h2, h3⟩ := h
  injection e with e1 e2 e3
  subst e1 e3
  refine ⟨_, c, by rw [List.length_set, e2], by rw [List.length_set]; exact h1, h2, fun i z hz => ?_⟩
  have hk := (List.getElem?_eq_some_iff.1 hx).1
  have hi : i < l.length := by have := (List.getElem?_eq_some_iff.1 hz).1; simpa using this
  obtain ⟨b', o', eb, hq, hb, c0, c1, c2, f⟩ := h3 i l[i] (List.getElem?_eq_getElem hi)
  injection eb with eb
  injection eb with eb1 eb2
  subst eb1 eb2
  have far : ∀ j v, j ≠ o + k * 3 + 2 → w.cell? ⟨b, j, none⟩ = some v → (w.setCell ⟨b, o + k * 3 + 2, none⟩ (.int .i64 m)).cell? ⟨b, j, none⟩ = some v := fun j v hj hv => by
    rw [World.cell?_setCell_other _ _ _ _ (by simp)]; exact hv
  refine ⟨b, o, rfl, hq, by simpa [World.setCell] using hb, ?_, ?_, ?_, fun j => (World.frozen?_setCell _ _ _ _).trans (f j)⟩
  · by_cases hik : k = i
    · subst hik
      rw [List.getElem?_set_self hk] at hz
      obtain rfl := Option.some.inj hz
      obtain rfl : l[k] = x := Option.some.inj ((List.getElem?_eq_getElem hk).symm.trans hx)
      exact far _ _ (by omega) c0
    · rw [List.getElem?_set_ne hik, List.getElem?_eq_getElem hi] at hz
      obtain rfl := Option.some.inj hz
      exact far _ _ (by omega) c0
  · by_cases hik : k = i
    · subst hik
      rw [List.getElem?_set_self hk] at hz
      obtain rfl := Option.some.inj hz
      obtain rfl : l[k] = x := Option.some.inj ((List.getElem?_eq_getElem hk).symm.trans hx)
      exact far _ _ (by omega) c1
    · rw [List.getElem?_set_ne hik, List.getElem?_eq_getElem hi] at hz
      obtain rfl := Option.some.inj hz
      exact far _ _ (by omega) c1
  · by_cases hik : k = i
    · subst hik
      rw [List.getElem?_set_self hk] at hz
      obtain rfl := Option.some.inj hz
      exact World.cell?_setCell_same' _ _ _ (by rw [c2]; rfl)
    · rw [List.getElem?_set_ne hik, List.getElem?_eq_getElem hi] at hz
      obtain rfl := Option.some.inj hz
      exact far _ _ (by omega) c2
theorem Wr.setN {w0 w : World} {bw b o n c k : Nat} {s : ByteArray} {l : List Opd} {x : Opd} {m : Int} (h : Wr w0 w bw s (.slice (some ⟨b, o, none⟩) n c) l) (hx : l[k]? = some x) (hq : w0.heap.size ≤ b ∧ b ≠ bw) :
    Wr w0 (w.setCell ⟨b, o + k * 3 + 2, none⟩ (.int .i64 m)) bw s (.slice (some ⟨b, o, none⟩) n c) (l.set k { x with n := m }) :=
  ⟨h.blk.far (Ne.symm hq.2) _, h.own.setN hx, h.old, h.below.setCell hq.1 _, h.spc0⟩

set_option maxHeartbeats 2000000 in
theorem numbers_any (w0 w : World) (bw : Nat) (s : ByteArray) (v : Value) (l : List Opd) (h : Wr w0 w bw s v l) (hn : ∀ x ∈ l, -9223372036854775808 ≤ x.n ∧ x.n ≤ 9223372036854775807) :
    Calls Tryz.prog 124 #[.pointer (some ⟨bw, 0, none⟩)] w fun e w' => e = .returned (.tuple #[]) ∧ Wr w0 w' bw s v (l.map (numb (sizeOfW (width ⟨s, l⟩)))) := by
  obtain ⟨a, c, rfl, hc, hm, g⟩ := h.own
  have H := Lib.hid h
  have HN := Lib.hid hn
  have hwd := fun wx h1 h2 => Width_any (fun _ => True) ⟨s, l⟩ (.slice a l.length c) wx h1 h2
  obtain ⟨e0, e1, _, _⟩ := h.blk.two
  have HLEN : Hid (l.length ≤ 9223372036854775807) := Lib.hid (by omega)
  clear h hn g hc hm
  rcases width_cases ⟨s, l⟩ with hw | hw | hw
  · rw [hw]
    dsimp only at hwd
    rw [hw] at hwd
    have HWD := Lib.hid hwd
    clear hwd
    go_enter Tryz.func124, Tryz.ntmps124
    go_wp2_with fail
    refine (HWD.out _ (H.out.own.slR.mono (fun _ _ => trivial)) H.out.spc).mono ?_
    rintro e w1 ⟨rfl, hb1⟩
    have H1 := Lib.hid (H.out.later hb1)
    clear e0 e1 hb1
    obtain ⟨e0, e1, _, _⟩ := H1.out.blk.two
    go_wp2
    go_loopw [3, 4, 18] (fun _ _ i wr => ∃ k : Nat, k ≤ l.length ∧ i = .int .i64 k ∧ Wr w0 wr bw s (.slice a l.length c) (part 1 l k)) (fun _ _ i _ => l.length - (intOf i).toNat)
    case atStart => exact ⟨0, Nat.zero_le _, rfl, by rw [part_zero]; exact H1.out⟩
    case round =>
      clear e0 e1
      obtain ⟨k, hk, rfl, hwr⟩ := hrel
      have HR := Lib.hid hwr
      clear hwr
      have hbig := HLEN.out
      by_cases hlt : k < l.length
      · have hat := part_at 1 l k hlt
        obtain ⟨a', c', e', _, _, g⟩ := HR.out.own
        injection e' with e1' _ e3'
        subst e1' e3'
        obtain ⟨b, o, rfl, hq, hb, c0, c1, c2, fr⟩ := g k _ hat
        have hx := HN.out l[k] (List.getElem_mem hlt)
        have HST : Hid (∀ m : Int, Wr w0 _ bw s _ _) := fun m => (HR.out.setN (m := m) hat hq).alloc (.cells #[.int .i64 l[k].kind, .int .i64 l[k].reg, .int .i64 l[k].n] 87)
        have HSU := Lib.hid (part_succ 1 l k hlt)
        have HSA := Lib.hid (part_same 1 l k hlt)
        have hne : bw < wr.heap.size := HR.out.blk.lt
        obtain ⟨e0, e1, _, _⟩ := HR.out.blk.two
        have hq2 := hq.2
        clear g hat hq
        generalize l[k] = x at *
        obtain ⟨hx1, hx2⟩ := hx
        have f2 := fr (o + k * 3 + 2)
        clear fr
        have NO : Hid (¬ (x.kind = 6 ∧ x.n < 0 ∧ -(1 / 2) ≤ x.n ∧ (1 : Int) < 1) → numb 1 x = x) := fun h => by unfold numb; rw [if_neg h]
        have YES : Hid ((x.kind = 6 ∧ x.n < 0 ∧ -(1 / 2) ≤ x.n ∧ (1 : Int) < 1) → numb 1 x = { x with n := x.n + 1 }) := fun h => by unfold numb; rw [if_pos h]
        cases h6 : (x.kind == 6)
        · go_wp2
          go_roundw
          case rel => exact ⟨k + 1, by omega, by go_num, by rw [HSA.out (NO.out (fun h => by rw [h.1] at h6; cases h6))]; exact HR.out.alloc _⟩
          case measure => simp [intOf]; omega
        · by_cases h0 : x.n < 0
          · by_cases h1 : 0 ≤ x.n
            · exact absurd h1 (by omega)
            · go_wp2
              go_roundw
              case rel => exact ⟨k + 1, by omega, by go_num, by rw [HSA.out (NO.out (fun h => h1 (by have := h.2.2.1; omega)))]; exact HR.out.alloc _⟩
              case measure => simp [intOf]; omega
          · go_wp2
            go_roundw
            case rel => exact ⟨k + 1, by omega, by go_num, by rw [HSA.out (NO.out (fun h => h0 h.2.1))]; exact HR.out.alloc _⟩
            case measure => simp [intOf]; omega
      · go_wp2
        go_end0
        refine ⟨rfl, ?_⟩
        have : part 1 l k = l.map (numb (sizeOfW 0)) := part_all 1 l k (by omega)
        rw [← this]
        exact HR.out
  · rw [hw]
    dsimp only at hwd
    rw [hw] at hwd
    have HWD := Lib.hid hwd
    clear hwd
    go_enter Tryz.func124, Tryz.ntmps124
    go_wp2_with fail
    refine (HWD.out _ (H.out.own.slR.mono (fun _ _ => trivial)) H.out.spc).mono ?_
    rintro e w1 ⟨rfl, hb1⟩
    have H1 := Lib.hid (H.out.later hb1)
    clear e0 e1 hb1
    obtain ⟨e0, e1, _, _⟩ := H1.out.blk.two
    go_wp2
    go_loopw [3, 4, 18] (fun _ _ i wr => ∃ k : Nat, k ≤ l.length ∧ i = .int .i64 k ∧ Wr w0 wr bw s (.slice a l.length c) (part 256 l k)) (fun _ _ i _ => l.length - (intOf i).toNat)
    case atStart => exact ⟨0, Nat.zero_le _, rfl, by rw [part_zero]; exact H1.out⟩
    case round =>
      clear e0 e1
      obtain ⟨k, hk, rfl, hwr⟩ := hrel
      have HR := Lib.hid hwr
      clear hwr
      have hbig := HLEN.out
      by_cases hlt : k < l.length
      · have hat := part_at 256 l k hlt
        obtain ⟨a', c', e', _, _, g⟩ := HR.out.own
        injection e' with e1' _ e3'
        subst e1' e3'
        obtain ⟨b, o, rfl, hq, hb, c0, c1, c2, fr⟩ := g k _ hat
        have hx := HN.out l[k] (List.getElem_mem hlt)
        have HST : Hid (∀ m : Int, Wr w0 _ bw s _ _) := fun m => (HR.out.setN (m := m) hat hq).alloc (.cells #[.int .i64 l[k].kind, .int .i64 l[k].reg, .int .i64 l[k].n] 87)
        have HSU := Lib.hid (part_succ 256 l k hlt)
        have HSA := Lib.hid (part_same 256 l k hlt)
        have hne : bw < wr.heap.size := HR.out.blk.lt
        obtain ⟨e0, e1, _, _⟩ := HR.out.blk.two
        have hq2 := hq.2
        clear g hat hq
        generalize l[k] = x at *
        obtain ⟨hx1, hx2⟩ := hx
        have f2 := fr (o + k * 3 + 2)
        clear fr
        have NO : Hid (¬ (x.kind = 6 ∧ x.n < 0 ∧ -(256 / 2) ≤ x.n ∧ (1 : Int) < 256) → numb 256 x = x) := fun h => by unfold numb; rw [if_neg h]
        have YES : Hid ((x.kind = 6 ∧ x.n < 0 ∧ -(256 / 2) ≤ x.n ∧ (1 : Int) < 256) → numb 256 x = { x with n := x.n + 256 }) := fun h => by unfold numb; rw [if_pos h]
        cases h6 : (x.kind == 6)
        · go_wp2
          go_roundw
          case rel => exact ⟨k + 1, by omega, by go_num, by rw [HSA.out (NO.out (fun h => by rw [h.1] at h6; cases h6))]; exact HR.out.alloc _⟩
          case measure => simp [intOf]; omega
        · by_cases h0 : x.n < 0
          · by_cases h1 : -128 ≤ x.n
            · go_wp2
              go_roundw
              case rel => exact ⟨k + 1, by omega, by go_num, by rw [HSU.out, YES.out ⟨by simpa using h6, h0, by omega, by omega⟩]; exact HST.out _⟩
              case measure => simp [intOf]; omega
            · go_wp2
              go_roundw
              case rel => exact ⟨k + 1, by omega, by go_num, by rw [HSA.out (NO.out (fun h => h1 (by have := h.2.2.1; omega)))]; exact HR.out.alloc _⟩
              case measure => simp [intOf]; omega
          · go_wp2
            go_roundw
            case rel => exact ⟨k + 1, by omega, by go_num, by rw [HSA.out (NO.out (fun h => h0 h.2.1))]; exact HR.out.alloc _⟩
            case measure => simp [intOf]; omega
      · go_wp2
        go_end0
        refine ⟨rfl, ?_⟩
        have : part 256 l k = l.map (numb (sizeOfW 1)) := part_all 256 l k (by omega)
        rw [← this]
        exact HR.out
  · rw [hw]
    dsimp only at hwd
    rw [hw] at hwd
    have HWD := Lib.hid hwd
    clear hwd
    go_enter Tryz.func124, Tryz.ntmps124
    go_wp2_with fail
    refine (HWD.out _ (H.out.own.slR.mono (fun _ _ => trivial)) H.out.spc).mono ?_
    rintro e w1 ⟨rfl, hb1⟩
    have H1 := Lib.hid (H.out.later hb1)
    clear e0 e1 hb1
    obtain ⟨e0, e1, _, _⟩ := H1.out.blk.two
    go_wp2
    go_loopw [3, 4, 18] (fun _ _ i wr => ∃ k : Nat, k ≤ l.length ∧ i = .int .i64 k ∧ Wr w0 wr bw s (.slice a l.length c) (part 65536 l k)) (fun _ _ i _ => l.length - (intOf i).toNat)
    case atStart => exact ⟨0, Nat.zero_le _, rfl, by rw [part_zero]; exact H1.out⟩
    case round =>
      clear e0 e1
      obtain ⟨k, hk, rfl, hwr⟩ := hrel
      have HR := Lib.hid hwr
      clear hwr
      have hbig := HLEN.out
      by_cases hlt : k < l.length
      · have hat := part_at 65536 l k hlt
        obtain ⟨a', c', e', _, _, g⟩ := HR.out.own
        injection e' with e1' _ e3'
        subst e1' e3'
        obtain ⟨b, o, rfl, hq, hb, c0, c1, c2, fr⟩ := g k _ hat
        have hx := HN.out l[k] (List.getElem_mem hlt)
        have HST : Hid (∀ m : Int, Wr w0 _ bw s _ _) := fun m => (HR.out.setN (m := m) hat hq).alloc (.cells #[.int .i64 l[k].kind, .int .i64 l[k].reg, .int .i64 l[k].n] 87)
        have HSU := Lib.hid (part_succ 65536 l k hlt)
        have HSA := Lib.hid (part_same 65536 l k hlt)
        have hne : bw < wr.heap.size := HR.out.blk.lt
        obtain ⟨e0, e1, _, _⟩ := HR.out.blk.two
        have hq2 := hq.2
        clear g hat hq
        generalize l[k] = x at *
        obtain ⟨hx1, hx2⟩ := hx
        have f2 := fr (o + k * 3 + 2)
        clear fr
        have NO : Hid (¬ (x.kind = 6 ∧ x.n < 0 ∧ -(65536 / 2) ≤ x.n ∧ (1 : Int) < 65536) → numb 65536 x = x) := fun h => by unfold numb; rw [if_neg h]
        have YES : Hid ((x.kind = 6 ∧ x.n < 0 ∧ -(65536 / 2) ≤ x.n ∧ (1 : Int) < 65536) → numb 65536 x = { x with n := x.n + 65536 }) := fun h => by unfold numb; rw [if_pos h]
        cases h6 : (x.kind == 6)
        · go_wp2
          go_roundw
          case rel => exact ⟨k + 1, by omega, by go_num, by rw [HSA.out (NO.out (fun h => by rw [h.1] at h6; cases h6))]; exact HR.out.alloc _⟩
          case measure => simp [intOf]; omega
        · by_cases h0 : x.n < 0
          · by_cases h1 : -32768 ≤ x.n
            · go_wp2
              go_roundw
              case rel => exact ⟨k + 1, by omega, by go_num, by rw [HSU.out, YES.out ⟨by simpa using h6, h0, by omega, by omega⟩]; exact HST.out _⟩
              case measure => simp [intOf]; omega
            · go_wp2
              go_roundw
              case rel => exact ⟨k + 1, by omega, by go_num, by rw [HSA.out (NO.out (fun h => h1 (by have := h.2.2.1; omega)))]; exact HR.out.alloc _⟩
              case measure => simp [intOf]; omega
          · go_wp2
            go_roundw
            case rel => exact ⟨k + 1, by omega, by go_num, by rw [HSA.out (NO.out (fun h => h0 h.2.1))]; exact HR.out.alloc _⟩
            case measure => simp [intOf]; omega
      · go_wp2
        go_end0
        refine ⟨rfl, ?_⟩
        have : part 65536 l k = l.map (numb (sizeOfW 2)) := part_all 65536 l k (by omega)
        rw [← this]
        exact HR.out
end Go.Proofs.YtlepicdjnbbndaaGreatDoor

/-
  canon.Of. Conditions: the library's table of white space as its initialiser lays it; at most a million operands.
-/
namespace Go.Proofs.YtlepicdjnbbndaaGreatDoor
open Go.RowKit

def fits64 (n : Int) : Prop := -9223372036854775808 ≤ n ∧ n ≤ 9223372036854775807
def canonArgs (s : ByteArray) (l : List Opd) : List Opd := let l2 := exch s (accum s l); l2.map (numb (sizeOfW (width ⟨s, l2⟩)))
def canonOf (x : Ins) : Ins := ⟨x.op, canonArgs x.op x.args⟩
theorem accum_fits {s : ByteArray} {l : List Opd} (h : ∀ x ∈ l, fits64 x.n) : ∀ x ∈ accum s l, fits64 x.n := by
  intro x hx
  unfold accum at hx
  have h0 : fits64 (0 : Int) := ⟨by decide, by decide⟩
  split at hx
  · split at hx
    · rcases List.mem_cons.1 hx with rfl | hx
      · exact h0
      · exact h x hx
    · exact h x hx
  · split at hx
    · exact h x (by simp at hx ⊢; exact .inr hx)
    · exact h x hx
  · exact h x hx
theorem exch_fits {s : ByteArray} {l : List Opd} (h : ∀ x ∈ l, fits64 x.n) : ∀ x ∈ exch s l, fits64 x.n := by
  intro x hx
  unfold exch at hx
  have h0 : fits64 (0 : Int) := ⟨by decide, by decide⟩
  split at hx
  · simp at hx
    rcases hx with rfl | rfl <;> exact h0
  · exact h x hx

set_option maxHeartbeats 2000000 in
theorem Of_any (p : Blocks) (x : Ins) (v : Value) (w : World) (h : SlR opdR w p v x.args) (hT : Spc w) (hn : x.args.length ≤ 1000000) (hf : ∀ y ∈ x.args, fits64 y.n) :
    Calls Tryz.prog 72 #[.agg #[.string x.op, v]] w fun e w' => ∃ v', e = .returned (.agg #[.string x.op, v']) ∧ OpdOwn w' (fun b => w.heap.size ≤ b) v' (canonOf x).args ∧ Below w.heap.size w w' := by
  obtain ⟨s, l⟩ := x
  dsimp only at *
  obtain ⟨a, c, rfl, _⟩ := h.opd
  have H := Lib.hid h
  have HT := Lib.hid hT
  have HN := Lib.hid hn
  have HF := Lib.hid hf
  clear h hT hn hf
  obtain ⟨W, hW⟩ : ∃ W : World, W = (w.alloc (.cells #[.string s, .slice a l.length c] 25)).alloc (.cells #[.string ⟨#[]⟩, .slice none 0 0] 25) := ⟨_, rfl⟩
  have hbW : Below w.heap.size w W := hW ▸ ((Below.refl _ _).alloc (Nat.le_refl _) _).alloc (by simp) _
  have k1 : Blk W w.heap.size 25 #[.string s, .slice a l.length c] := hW ▸ (Blk.new w _ _).alloc _
  have k2 : Blk W (w.heap.size + 1) 25 #[.string ⟨#[]⟩, .slice none 0 0] := by rw [hW]; exact (by simpa using Blk.new (w.alloc (.cells #[.string s, .slice a l.length c] 25)) 25 #[.string ⟨#[]⟩, .slice none 0 0])
  have HBW := Lib.hid hbW
  have K2 := Lib.hid k2
  obtain ⟨a0, a1, _, _⟩ := k1.two
  have hs1 : w.heap.size < W.heap.size := k1.lt
  have hs2 : w.heap.size + 1 < W.heap.size := k2.lt
  clear hbW k1 k2
  go_enter Tryz.func72, Tryz.ntmps72
  go_wp2
  rw [← hW]
  have HW := Lib.hid hW
  clear hW
  have HCL := Lib.hid (CloneOpd_any p _ _ W.drew (H.out.below HBW.out).drew HN.out)
  go_region_held3 (fun w' => w'.cell? ⟨w.heap.size, 0, none⟩ = some (.string s) ∧ w'.cell? ⟨w.heap.size, 1, none⟩ = some (.slice a l.length c)) (go_keep)
    (first | (go_at_call 119; refine HCL.out.mono ?_; rintro e w1 ⟨v', rfl, ho, hb⟩; have HO := Lib.hid ho; have HB := Lib.hid hb; obtain ⟨a', cap', rfl⟩ := ho.form; have a0' : w1.cell? ⟨w.heap.size, 0, none⟩ = some (.string s) := (hb.cell (p := ⟨w.heap.size, 0, none⟩) hs1).trans a0; have a1' : w1.cell? ⟨w.heap.size, 1, none⟩ = some (.slice a l.length c) := (hb.cell (p := ⟨w.heap.size, 1, none⟩) hs1).trans a1; clear ho hb))
  have HWR : Hid (Wr W (w1.alloc (.cells #[.string s, .slice a' l.length cap'] 169)) w1.heap.size s (.slice a' l.length cap') l) :=
    ⟨Blk.new _ _ _, (HO.out.opdOwn (q := fun b => W.heap.size ≤ b ∧ b ≠ w1.heap.size) (fun k hk => ⟨(HO.out.lt k hk).1, by have := (HO.out.lt k hk).2; omega⟩)).below ((Below.refl _ _).alloc (Nat.le_refl _) _), HB.out.size, (Below.trans (b := w1) ⟨HB.out.os, HB.out.tape, HB.out.output, HB.out.size, HB.out.block⟩ ((Below.refl _ _).mono HB.out.size |>.alloc HB.out.size _)), HT.out.below HBW.out⟩
  clear a0 a1 a0' a1'
  generalize w1.alloc (.cells #[.string s, .slice a' l.length cap'] 169) = W2 at *
  have i0 : ∀ w, (Instr.index 171 (.agg #[.func (.func 122) #[] #[], .func (.func 123) #[] #[], .func (.func 124) #[] #[]]) (.int .i64 0)).run Tryz.prog w = .ok (.func (.func 122) #[] #[]) w := fun _ => by kernel_rfl
  have i1 : ∀ w, (Instr.index 171 (.agg #[.func (.func 122) #[] #[], .func (.func 123) #[] #[], .func (.func 124) #[] #[]]) (.int .i64 1)).run Tryz.prog w = .ok (.func (.func 123) #[] #[]) w := fun _ => by kernel_rfl
  have i2 : ∀ w, (Instr.index 171 (.agg #[.func (.func 122) #[] #[], .func (.func 123) #[] #[], .func (.func 124) #[] #[]]) (.int .i64 2)).run Tryz.prog w = .ok (.func (.func 124) #[] #[]) w := fun _ => by kernel_rfl
  go_wp2
  refine wp_loop_rounds 4 ?_
  rw [rounds_succ]
  go_wp2_with (go_at_call 122; refine (acc_any _ _ _ _ _ _ HWR.out).mono ?_; rintro e w3 ⟨rfl, v3, h3⟩; have H3 := Lib.hid h3; clear h3)
  rw [rounds_succ]
  go_wp2_with (go_at_call 123; refine (exch_any _ _ _ _ _ _ H3.out).mono ?_; rintro e w4 ⟨rfl, v4, h4⟩; have H4 := Lib.hid h4; clear h4)
  rw [rounds_succ]
  go_wp2_with (go_at_call 124; refine (numbers_any _ _ _ _ _ _ H4.out (exch_fits (accum_fits HF.out))).mono ?_; rintro e w5 ⟨rfl, h5⟩; have H5 := Lib.hid h5; clear h5)
  rw [rounds_succ]
  obtain ⟨a5, c5, rfl, _⟩ := H5.out.own
  obtain ⟨e0, e1, _, _⟩ := H5.out.blk.two
  have HK5 := Lib.hid (K2.out.below H5.out.below K2.out.lt)
  obtain ⟨r0, r1, q0, q1⟩ := HK5.out.two
  have HRES := Lib.hid ((HK5.out.set 0 (.string s)).set 1 (.slice a5 (exch s (accum s l)).length c5))
  go_wp2
  refine bodyPost_ret (results_cell_row rfl _ _ (w.heap.size + 1) 25 #[.string s, .slice a5 (exch s (accum s l)).length c5] (0, 0) _ rfl HRES.out Tryz.underlying25 rfl (by kernel_rfl)) rfl ⟨.slice a5 (exch s (accum s l)).length c5, rfl, ?_, ?_⟩
  · have ho := H5.out.own
    rw [List.length_map] at ho
    have ho2 : OpdOwn w5 (fun b => W.heap.size ≤ b) (.slice a5 (exch s (accum s l)).length c5) (canonArgs s l) := ho.mono (fun _ hk => hk.1)
    refine (ho2.keep fun k hk => ?_).mono (fun k (hk : W.heap.size ≤ k) => by omega)
    have hk' : W.heap.size ≤ k := hk
    rw [Below.heap_setCell _ _ _ _ (by simp; omega), Below.heap_setCell _ _ _ _ (by simp; omega)]
  · exact ((HBW.out.trans (H5.out.below.mono HBW.out.size)).setCell (p := ⟨w.heap.size + 1, 0, none⟩) (by simp) _).setCell (p := ⟨w.heap.size + 1, 1, none⟩) (by simp) _
end Go.Proofs.YtlepicdjnbbndaaGreatDoor

/-
  canon.Is, and the two helpers of the statements of chapter 8.
-/
namespace Go.Proofs.YtlepicdjnbbndaaGreatDoor
open Go.RowKit

def short8 (x : Ins) : Bool := decide (x.op.size ≤ 100) && decide (x.args.length ≤ 20)

theorem insEq_refl (x : Ins) : insEq x x = true := insEq_iff.2 rfl
def wSUB : ByteArray := ⟨#[83, 85, 66]⟩
theorem upper_SUB : upper ⟨#[83, 85, 66]⟩ = ⟨#[83, 85, 66]⟩ := by decide +kernel
theorem canonOf_alive : canonOf ⟨⟨#[83, 85, 66]⟩, [⟨1, 7, 0⟩, ⟨6, 0, -1⟩]⟩ = ⟨⟨#[83, 85, 66]⟩, [⟨6, 0, 255⟩]⟩ := by rw [← insEq_iff]; decide +kernel
theorem canonOf_alive2 : canonOf ⟨⟨#[83, 85, 66]⟩, [⟨6, 0, 255⟩]⟩ = ⟨⟨#[83, 85, 66]⟩, [⟨6, 0, 255⟩]⟩ := by rw [← insEq_iff]; decide +kernel

end Go.Proofs.YtlepicdjnbbndaaGreatDoor

/-
  PLAIN LAWS OF THE CANONICAL FORM: it is its own canonical form, and its width is the instruction's.
-/
namespace Go.Proofs.YtlepicdjnbbndaaGreatDoor
open Go.RowKit

theorem numb_kind (sz : Int) (o : Opd) : (numb sz o).kind = o.kind := by unfold numb; split <;> rfl
theorem numb_other (sz : Int) (o : Opd) (h : o.kind ≠ 6) : numb sz o = o := by unfold numb; rw [if_neg (fun hh => h hh.1)]
theorem numb_eq_other (sz : Int) (o p : Opd) (h : p.kind ≠ 6) : numb sz o = p ↔ o = p := by
  constructor
  · intro e
    rw [numb_other sz o (by rw [← numb_kind sz o, e]; exact h)] at e
    exact e
  · rintro rfl; exact numb_other sz _ h
theorem numb_numb (sz : Int) (o : Opd) : numb sz (numb sz o) = numb sz o := by
  by_cases h : o.kind = 6 ∧ o.n < 0 ∧ -(sz / 2) ≤ o.n ∧ 1 < sz
  · have e : numb sz o = { o with n := o.n + sz } := by unfold numb; rw [if_pos h]
    rw [e]
    unfold numb
    rw [if_neg (by dsimp only; omega)]
  · have e : numb sz o = o := by unfold numb; rw [if_neg h]
    rw [e, e]
theorem numb_fits (sz : Int) (o : Opd) (hs : sz ≤ 65536) (h : fits64 o.n) : fits64 (numb sz o).n := by
  unfold fits64 at *
  by_cases hc : o.kind = 6 ∧ o.n < 0 ∧ -(sz / 2) ≤ o.n ∧ 1 < sz
  · have e : numb sz o = { o with n := o.n + sz } := by unfold numb; rw [if_pos hc]
    rw [e]; dsimp only; omega
  · have e : numb sz o = o := by unfold numb; rw [if_neg hc]
    rw [e]; exact h
theorem sizeOfW_le (w : Int) : sizeOfW w ≤ 65536 := by unfold sizeOfW; split; omega; split <;> omega
theorem canon_fits {s : ByteArray} {l : List Opd} (h : ∀ x ∈ l, fits64 x.n) : ∀ x ∈ canonArgs s l, fits64 x.n := by
  intro x hx
  unfold canonArgs at hx
  obtain ⟨y, hy, rfl⟩ := List.mem_map.1 hx
  exact numb_fits _ _ (sizeOfW_le _) (exch_fits (accum_fits h) y hy)

theorem ld_noSub : inL wSub ⟨#[76, 68]⟩ = false := by decide +kernel
theorem ld_noAdd : inL wAdd ⟨#[76, 68]⟩ = false := by decide +kernel
theorem ex_noSub : inL wSub ⟨#[69, 88]⟩ = false := by decide +kernel
theorem ex_noAdd : inL wAdd ⟨#[69, 88]⟩ = false := by decide +kernel
theorem op_of {s : ByteArray} {l : List UInt8} (h : (s.toList == l) = true) : s = ⟨l.toArray⟩ := toList_inj ((eq_of_beq h).trans (toList_mk l).symm)
theorem accum_no {s : ByteArray} {l : List Opd} (h1 : inL wSub s = false) (h2 : inL wAdd s = false) : accum s l = l := by
  match l with
  | [] => rfl
  | [x] => simp [accum, h2]
  | [x, y] => simp [accum, h1]
  | _ :: _ :: _ :: _ => rfl
theorem exch_no {s : ByteArray} {l : List Opd} (h : (s.toList == [69, 88]) = false) : exch s l = l := by simp [exch, h]
theorem width_args {s : ByteArray} (l m : List Opd) (h : head3 l = head3 m) : width ⟨s, l⟩ = width ⟨s, m⟩ := by simp [width, h]
theorem width_no {s : ByteArray} (l m : List Opd) (h : (s.toList == [76, 68]) = false) : width ⟨s, l⟩ = width ⟨s, m⟩ := by simp [width, h]
theorem width_exac (s : ByteArray) (l : List Opd) : width ⟨s, exch s (accum s l)⟩ = width ⟨s, l⟩ := by
  cases h : (s.toList == [76, 68])
  · exact width_no _ _ h
  · obtain rfl := op_of h
    rw [accum_no ld_noSub ld_noAdd, exch_no (by decide +kernel)]
theorem head3_map (sz : Int) (l : List Opd) : head3 (l.map (numb sz)) = head3 l := by
  cases l with
  | nil => rfl
  | cons x l => simp only [List.map, head3, numb_kind]
theorem width_canon (x : Ins) : width (canonOf x) = width x := by
  obtain ⟨s, l⟩ := x
  unfold canonOf canonArgs
  dsimp only
  rw [width_args _ _ (head3_map _ _), width_exac]
theorem canonOf_op (x : Ins) : (canonOf x).op = x.op := rfl

theorem accum_map (s : ByteArray) (l : List Opd) (sz : Int) : accum s (l.map (numb sz)) = (accum s l).map (numb sz) := by
  have hA : ∀ o, numb sz o = regA ↔ o = regA := fun o => numb_eq_other sz o regA (by decide)
  have hN : numb sz regA = regA := (hA regA).2 rfl
  match l with
  | [] => rfl
  | [x] => cases h : inL wAdd s <;> simp [accum, h, hN]
  | [x, y] =>
    have e : opdEq (numb sz x) regA = opdEq x regA := by simp only [opdEq, hA]
    cases h : inL wSub s <;> cases h2 : opdEq x regA <;> simp [accum, h, h2, e]
  | _ :: _ :: _ :: _ => rfl
theorem add_notSub {s : ByteArray} (h : inL wAdd s = true) : inL wSub s = false := by
  have := inL_iff.1 h
  simp [wAdd] at this
  rcases this with rfl | rfl | rfl <;> decide +kernel
theorem accum_accum (s : ByteArray) (l : List Opd) : accum s (accum s l) = accum s l := by
  match l with
  | [] => rfl
  | [x] =>
    cases h : inL wAdd s
    · simp [accum, h]
    · simp [accum, h, add_notSub h]
  | [x, y] =>
    cases h : inL wSub s
    · simp [accum, h]
    · have h3 : inL wAdd s = false := by
        cases h4 : inL wAdd s
        · rfl
        · rw [add_notSub h4] at h; cases h
      cases h2 : opdEq x regA <;> simp [accum, h, h2, h3]
  | _ :: _ :: _ :: _ => rfl
theorem exch_map (s : ByteArray) (l : List Opd) (sz : Int) : exch s (l.map (numb sz)) = (exch s l).map (numb sz) := by
  have h1 : ∀ o, numb sz o = opHL ↔ o = opHL := fun o => numb_eq_other sz o opHL (by decide)
  have h2 : ∀ o, numb sz o = opDE ↔ o = opDE := fun o => numb_eq_other sz o opDE (by decide)
  have e1 := (h1 opHL).2 rfl
  have e2 := (h2 opDE).2 rfl
  have hl : (l.map (numb sz) = [opHL, opDE]) ↔ l = [opHL, opDE] := by
    match l with
    | [] => simp
    | [x] => simp
    | [x, y] => simp [h1, h2]
    | _ :: _ :: _ :: _ => simp
  unfold exch
  cases h : (s.toList == [69, 88])
  · simp
  · by_cases hh : l = [opHL, opDE]
    · subst hh; simp [e1, e2]
    · simp [hh, hl]
theorem exch_exac (s : ByteArray) (l : List Opd) : exch s (accum s (exch s (accum s l))) = exch s (accum s l) := by
  cases h : (s.toList == [69, 88])
  · rw [exch_no h, exch_no h, accum_accum]
  · obtain rfl := op_of h
    rw [accum_no ex_noSub ex_noAdd, accum_no ex_noSub ex_noAdd]
    by_cases hh : l = [opHL, opDE]
    · subst hh; decide +kernel
    · have e : exch ⟨#[69, 88]⟩ l = l := by unfold exch; simp [hh]
      rw [e, e]
/-- the canonical form of a canonical form -/
theorem canonOf_canonOf (x : Ins) : canonOf (canonOf x) = canonOf x := by
  have hw := width_canon x
  obtain ⟨s, l⟩ := x
  have e : ∀ l, canonArgs s l = (exch s (accum s l)).map (numb (sizeOfW (width ⟨s, l⟩))) := fun l => by
    unfold canonArgs; dsimp only; rw [width_exac]
  show (⟨s, canonArgs s (canonArgs s l)⟩ : Ins) = ⟨s, canonArgs s l⟩
  have hw : width ⟨s, canonArgs s l⟩ = width ⟨s, l⟩ := hw
  rw [e (canonArgs s l), hw, e l, accum_map, exch_map, exch_exac, List.map_map]
  congr 1
  exact List.map_congr_left fun o _ => numb_numb _ o
end Go.Proofs.YtlepicdjnbbndaaGreatDoor
