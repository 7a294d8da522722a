/-
  canon.Width, the accumulator's step. Conditions: the library's table of white space as its initialiser lays it; at most a million operands.
-/
import Derived.Test.YtkkjoghfdmmpaaaDoorWord
import Derived.Lib.QuietBelow
namespace Go.Proofs.YtkkjoghfdmmpaaaDoor
open Go.RowKit Go.Sort

/-- A list of operands in a row of the call's own, in a block of q: its cells may be written. -/
def OpdOwn (w : World) (q : Blocks) (v : Value) (l : List Opd) : Prop :=
  ∃ a cap, v = .slice a l.length cap ∧ l.length ≤ cap ∧ cap ≤ 9223372036854775807 ∧
    ∀ i x, l[i]? = some x → ∃ b o, a = some ⟨b, o, none⟩ ∧ q b ∧ b < w.heap.size ∧ w.cell? ⟨b, o + i * 3, none⟩ = some (.int .i64 x.kind) ∧ w.cell? ⟨b, o + i * 3 + 1, none⟩ = some (.int .i64 x.reg) ∧ w.cell? ⟨b, o + i * 3 + 2, none⟩ = some (.int .i64 x.n) ∧
      ∀ j, w.frozen? ⟨b, j, none⟩ = false
theorem OpdOwn.keep {w w' : World} {q : Blocks} {v : Value} {l : List Opd} (h : OpdOwn w q v l) (hk : Keep q w w') : OpdOwn w' q v l := by
  obtain ⟨a, cap, e, h1, h2, h3⟩ := h
  refine ⟨a, cap, e, h1, h2, fun i x hx => ?_⟩
  obtain ⟨b, o, ea, hq, hb, c0, c1, c2, f2⟩ := h3 i x hx
  have hh := hk b hq
  have hc : ∀ j, w'.cell? ⟨b, j, none⟩ = w.cell? ⟨b, j, none⟩ := fun j => World.cell?_of_block (w := w) hh
  exact ⟨b, o, ea, hq, heap_lt hb hh, (hc _).trans c0, (hc _).trans c1, (hc _).trans c2, fun j => (World.frozen?_of_block (w := w) (a := ⟨b, j, none⟩) hh).trans (f2 j)⟩
theorem OpdOwn.below {w w' : World} {q : Blocks} {v : Value} {l : List Opd} (h : OpdOwn w q v l) (hb : Below w.heap.size w w') : OpdOwn w' q v l := by
  obtain ⟨a, cap, e, h1, h2, h3⟩ := h
  refine ⟨a, cap, e, h1, h2, fun i x hx => ?_⟩
  obtain ⟨b, o, ea, hq, hbs, c0, c1, c2, f2⟩ := h3 i x hx
  have hc : ∀ j, w'.cell? ⟨b, j, none⟩ = w.cell? ⟨b, j, none⟩ := fun j => hb.cell (p := ⟨b, j, none⟩) hbs
  exact ⟨b, o, ea, hq, Nat.lt_of_lt_of_le hbs hb.size, (hc _).trans c0, (hc _).trans c1, (hc _).trans c2, fun j => (hb.frozen (p := ⟨b, j, none⟩) hbs).trans (f2 j)⟩
theorem OpdOwn.mono {w : World} {q r : Blocks} {v : Value} {l : List Opd} (h : OpdOwn w q v l) (hq : ∀ k, q k → r k) : OpdOwn w r v l := by
  obtain ⟨a, cap, e, h1, h2, h3⟩ := h
  refine ⟨a, cap, e, h1, h2, fun i x hx => ?_⟩
  obtain ⟨b, o, ea, hb, r⟩ := h3 i x hx
  exact ⟨b, o, ea, hq _ hb, r⟩
theorem OpdOwn.slR {w : World} {q : Blocks} {v : Value} {l : List Opd} (h : OpdOwn w q v l) : SlR opdR w q v l := by
  obtain ⟨a, cap, e, h1, h2, h3⟩ := h
  refine ⟨a, cap, e, h1, by simpa [maxLen] using h2, fun i x hx => ?_⟩
  obtain ⟨b, o, ea, hq, hb, c0, c1, c2, f2⟩ := h3 i x hx
  refine ⟨b, o, x.cells, ea, hq, hb, fun j u hu => ?_, rfl⟩
  match j, hu with
  | 0, hu => simp [Opd.cells] at hu; subst hu; exact c0
  | 1, hu => simp [Opd.cells] at hu; subst hu; exact c1
  | 2, hu => simp [Opd.cells] at hu; subst hu; exact c2
theorem Own.opdOwn {w : World} {B : Nat} {e : TypeId} {p q : Blocks} {v : Value} {l : List Opd} (h : Own opdR w B e p v l) (hq : ∀ k, v.ownBlock = some k → q k) : OpdOwn w q v l := by
  have hs := h.slR (q := fun k => p k ∨ B ≤ k) (fun k hk => .inl hk) (fun k hk => .inr hk)
  obtain ⟨cs, hrow, hels⟩ := h
  obtain ⟨a, cap, rfl, h1, h2, h3⟩ := hs.opd
  refine ⟨a, cap, rfl, h1, h2, fun i x hx => ?_⟩
  obtain ⟨b, o, ea, hb, c0, c1, c2⟩ := h3 i x hx
  subst ea
  refine ⟨b, o, rfl, hq b rfl, World.block_lt_of_cell? w _ c0, c0, c1, c2, ?_⟩
  rcases hrow.2 with ⟨hv, _⟩ | ⟨g, cap', cur, hv, hbg, hg, _⟩
  · cases hv
  · injection hv with hv
    injection hv with hv
    injection hv with hv1
    subst hv1
    exact fun j => frozen_of_row w b j cur e hg

/-- SUB AND XOR OR CP -/
def wSub : List ByteArray := [⟨#[83, 85, 66]⟩, ⟨#[65, 78, 68]⟩, ⟨#[88, 79, 82]⟩, ⟨#[79, 82]⟩, ⟨#[67, 80]⟩]
/-- ADD ADC SBC -/
def wAdd : List ByteArray := [⟨#[65, 68, 68]⟩, ⟨#[65, 68, 67]⟩, ⟨#[83, 66, 67]⟩]
def regA : Opd := ⟨1, 7, 0⟩
/-- the step that leaves out the register A, or puts it in -/
def accum (s : ByteArray) (l : List Opd) : List Opd :=
  match l with
  | [x] => if inL wAdd s then [regA, x] else [x]
  | [x, y] => if inL wSub s && opdEq x regA then [y] else [x, y]
  | l => l

/-- What the steps of the canonical form leave: the writer's block, its operands in a row of the call's own. -/
structure Wr (w0 w : World) (bw : Nat) (s : ByteArray) (v : Value) (l : List Opd) : Prop where
  blk : Blk w bw 98 #[.string s, v]
  own : OpdOwn w (fun b => w0.heap.size ≤ b ∧ b ≠ bw) v l
  old : w0.heap.size ≤ bw
  below : Below w0.heap.size w0 w
  spc0 : Spc w0
theorem Wr.spc {w0 w : World} {bw : Nat} {s : ByteArray} {v : Value} {l : List Opd} (h : Wr w0 w bw s v l) : Spc w := h.spc0.below h.below
/-- the operands' field is written -/
theorem Wr.set {w0 w : World} {bw : Nat} {s : ByteArray} {v v' : Value} {l l' : List Opd} (h : Wr w0 w bw s v l) (ho : OpdOwn w (fun b => w0.heap.size ≤ b ∧ b ≠ bw) v' l') : Wr w0 (w.setCell ⟨bw, 1, none⟩ v') bw s v' l' :=
  ⟨h.blk.set 1 v', ho.keep fun _ hk => Below.heap_setCell _ _ _ _ hk.2, h.old, h.below.setCell h.old _, h.spc0⟩

/-- the operands of a new block -/
theorem opdOwn_new {w : World} {q : Blocks} (l : List Opd) (cs : Array Value) (t : TypeId) (b n : Nat) (hb : b = w.heap.size) (hn : n = l.length) (hcs : cs.toList = l.flatMap Opd.cells) (hq : q b) (hl : l.length ≤ 1000000) : OpdOwn (w.alloc (.cells cs t)) q (.slice (some ⟨b, 0, none⟩) n n) l := by
  subst hb hn
  have hels : ∀ (l : List Opd) (p : Blocks) (w : World), Els opdR w p (l.flatMap Opd.cells) l := by
    intro l p w
    induction l with
    | nil => rfl
    | cons x l ih => exact ⟨x.cells, l.flatMap Opd.cells, rfl, rfl, ih⟩
  have hlen : cs.size = l.length * 3 := by
    have := (hels l (fun _ => True) w).len
    rw [← hcs] at this
    simpa [opdR_size] using this
  have ho : Own opdR (w.alloc (.cells cs t)) w.heap.size t (fun _ => True) (.slice (some ⟨w.heap.size, 0, none⟩) l.length l.length) l :=
    ⟨cs.toList, ⟨by rw [opdR_size]; simpa using hlen, .inr ⟨w.heap.size, l.length, cs, rfl, Nat.le_refl _, heap_alloc_new w _, Nat.le_refl _, by unfold maxLen; omega, by rw [opdR_size]; exact hlen, List.take_of_length_le (by rw [opdR_size, ← hlen, Array.length_toList]; exact Nat.le_refl _)⟩⟩, by rw [hcs]; exact hels l _ _⟩
  exact ho.opdOwn (fun k hk => by cases hk; exact hq)
theorem Wr.setNew {w0 w : World} {bw : Nat} {s : ByteArray} {v : Value} {l : List Opd} (h : Wr w0 w bw s v l) {x y : Opd} (cs : Array Value) (hcs : cs.toList = [x, y].flatMap Opd.cells) :
    Wr w0 (((w.setCell ⟨bw, 1, none⟩ (.slice (some ⟨w.heap.size, 0, none⟩) 2 2)).alloc (.cells cs 47)).drew) bw s (.slice (some ⟨w.heap.size, 0, none⟩) 2 2) [x, y] := by
  have hlt := h.blk.lt
  have hsz : (w.setCell ⟨bw, 1, none⟩ (.slice (some ⟨w.heap.size, 0, none⟩) 2 2)).heap.size = w.heap.size := by simp [World.setCell]
  have ho := opdOwn_new (w := w.setCell ⟨bw, 1, none⟩ (.slice (some ⟨w.heap.size, 0, none⟩) 2 2)) (q := fun b => w0.heap.size ≤ b ∧ b ≠ bw) [x, y] cs 47 w.heap.size 2 hsz.symm rfl hcs ⟨Nat.le_of_lt (Nat.lt_of_le_of_lt h.old hlt), by omega⟩ (by simp)
  refine ⟨(h.blk.set 1 _).alloc _, ho.keep fun _ _ => rfl, h.old, ((h.below.setCell h.old _).alloc (by rw [hsz]; exact Nat.le_of_lt (Nat.lt_of_le_of_lt h.old hlt)) _).drew, h.spc0⟩

theorem wSub_fields : fieldsOf ⟨#[83, 85, 66, 32, 65, 78, 68, 32, 88, 79, 82, 32, 79, 82, 32, 67, 80]⟩ = wSub := by decide +kernel
theorem wAdd_fields : fieldsOf ⟨#[65, 68, 68, 32, 65, 68, 67, 32, 83, 66, 67]⟩ = wAdd := by decide +kernel
theorem wSub_ascii : ∀ (j : Nat) b, (⟨#[83, 85, 66, 32, 65, 78, 68, 32, 88, 79, 82, 32, 79, 82, 32, 67, 80]⟩ : ByteArray).data.toList[j]? = some b → b.toNat < 128 := fun j b h =>
  (by decide +kernel : ∀ x ∈ (⟨#[83, 85, 66, 32, 65, 78, 68, 32, 88, 79, 82, 32, 79, 82, 32, 67, 80]⟩ : ByteArray).data.toList, x.toNat < 128) b (List.mem_of_getElem? h)
theorem wAdd_ascii : ∀ (j : Nat) b, (⟨#[65, 68, 68, 32, 65, 68, 67, 32, 83, 66, 67]⟩ : ByteArray).data.toList[j]? = some b → b.toNat < 128 := fun j b h =>
  (by decide +kernel : ∀ x ∈ (⟨#[65, 68, 68, 32, 65, 68, 67, 32, 83, 66, 67]⟩ : ByteArray).data.toList, x.toNat < 128) b (List.mem_of_getElem? h)
theorem wordSub_any (s : ByteArray) (w : World) (hT : Spc w) : Calls Tryd.prog 75 #[.string ⟨#[83, 85, 66, 32, 65, 78, 68, 32, 88, 79, 82, 32, 79, 82, 32, 67, 80]⟩, .string s] w fun e w' => e = .returned (.bool (inL wSub s)) ∧ Below w.heap.size w w' :=
  word_any _ wSub s w wSub_fields (by decide) (by decide) wSub_ascii hT
theorem wordAdd_any (s : ByteArray) (w : World) (hT : Spc w) : Calls Tryd.prog 75 #[.string ⟨#[65, 68, 68, 32, 65, 68, 67, 32, 83, 66, 67]⟩, .string s] w fun e w' => e = .returned (.bool (inL wAdd s)) ∧ Below w.heap.size w w' :=
  word_any _ wAdd s w wAdd_fields (by decide) (by decide) wAdd_ascii hT

theorem Wr.later {w0 w w' : World} {bw : Nat} {s : ByteArray} {v : Value} {l : List Opd} (h : Wr w0 w bw s v l) (hb : Below w.heap.size w w') : Wr w0 w' bw s v l :=
  ⟨h.blk.below hb h.blk.lt, h.own.below hb, h.old, h.below.trans (hb.mono h.below.size), h.spc0⟩

set_option maxHeartbeats 1000000 in
/-- no operand at the front that is left out, none put in -/
theorem acc_none (w0 w : World) (bw : Nat) (s : ByteArray) (a : Option Addr) (n c : Nat) (l : List Opd) (h : Wr w0 w bw s (.slice a n c) l) (hv : accum s l = l) (n1 : inL wAdd s = true → ((n : Int) == 1) = false) (n2 : inL wSub s = true → ((n : Int) == 2) = false) :
    Calls Tryd.prog 71 #[.pointer (some ⟨bw, 0, none⟩)] w fun e w' => e = .returned (.tuple #[]) ∧ ∃ v', Wr w0 w' bw s v' (accum s l) := by
  have HV := Lib.hid hv
  have N1 := Lib.hid n1
  have N2 := Lib.hid n2
  clear hv n1 n2
  cases h1 : inL wSub s
  · skip
    obtain ⟨w1, hw1⟩ : ∃ w1 : World, w1 = w.alloc (.cells #[.int .i64 1, .int .i64 7, .int .i64 0] 47) := ⟨_, rfl⟩
    have hb1 : Below w.heap.size w w1 := hw1 ▸ (Below.refl _ _).alloc (Nat.le_refl _) _
    have ka : Blk w1 w.heap.size 47 #[.int .i64 1, .int .i64 7, .int .i64 0] := hw1 ▸ Blk.new w _ _
    have HW1 := h.later hb1
    have E0 : ∀ d os, (grow (redrawn w1 d) os).cell? ⟨bw, 0, none⟩ = some (.string s) := fun d os => cell_regrown HW1.blk.two.1 d os
    have E1 : ∀ d os, (grow (redrawn w1 d) os).cell? ⟨bw, 1, none⟩ = some (.slice a n c) := fun d os => cell_regrown HW1.blk.two.2.1 d os
    have HS : Hid (∀ d os, Spc (grow (redrawn w1 d) os)) := fun d os => HW1.spc.below (below_regrown w1 d os)
    have hword := fun wx hT => wordSub_any s wx hT
    simp only [h1] at hword
    have HWORD := Lib.hid hword
    clear hword
    have KA := Lib.hid ka
    have HB1 := Lib.hid hb1
    have H1 := Lib.hid HW1
    clear ka hb1 HW1
    go_enter Tryd.func71, Tryd.ntmps71
    go_wp2
    rw [← hw1]
    have HE := Lib.hid hw1
    clear hw1
    refine wp_region_quiet_below (by kernel_rfl) (by kernel_rfl) ?_
    repeat (go_big_quiet_step (exact Calls.regrown_of (HWORD.out _ (HS.out _ _))))
    refine wpQuiet_nil ?_
    intro _ hw'
    obtain ⟨⟨dq, osq⟩, hw''⟩ := hw'
    subst hw''
    have HB2 : Hid (Below w1.heap.size w1 (grow (redrawn w1 dq) osq)) := below_regrown w1 dq osq
    generalize grow (redrawn w1 dq) osq = w2 at *
    have H2 : Hid (Wr w0 w2 bw s (.slice a n c) l) := H1.out.later HB2.out
    obtain ⟨e0, e1, f0, f1⟩ := H2.out.blk.two
    clear E0 E1 HS
    cases h2 : inL wAdd s
    · have hword := fun wx hT => wordAdd_any s wx hT
      simp only [h2] at hword
      have HWORD2 := Lib.hid hword
      clear hword
      go_wp2_with fail
      refine (HWORD2.out _ H2.out.spc).mono ?_
      rintro e w3 ⟨rfl, hb3⟩
      have H3 : Hid (Wr w0 w3 bw s (.slice a n c) l) := H2.out.later hb3
      have HB3 := Lib.hid hb3
      clear e0 e1 f0 f1 hb3
      obtain ⟨e0, e1, f0, f1⟩ := H3.out.blk.two
      go_wp2
      go_end0
      exact ⟨rfl, _, by rw [HV.out]; exact H3.out⟩
    · have n1 := N1.out h2
      have hword := fun wx hT => wordAdd_any s wx hT
      simp only [h2] at hword
      have HWORD2 := Lib.hid hword
      clear hword
      go_wp2_with fail
      refine (HWORD2.out _ H2.out.spc).mono ?_
      rintro e w3 ⟨rfl, hb3⟩
      have H3 : Hid (Wr w0 w3 bw s (.slice a n c) l) := H2.out.later hb3
      have HB3 := Lib.hid hb3
      clear e0 e1 f0 f1 hb3
      obtain ⟨e0, e1, f0, f1⟩ := H3.out.blk.two
      go_wp2
      go_end0
      exact ⟨rfl, _, by rw [HV.out]; exact H3.out⟩
  · have n2 := N2.out h1
    obtain ⟨w1, hw1⟩ : ∃ w1 : World, w1 = w.alloc (.cells #[.int .i64 1, .int .i64 7, .int .i64 0] 47) := ⟨_, rfl⟩
    have hb1 : Below w.heap.size w w1 := hw1 ▸ (Below.refl _ _).alloc (Nat.le_refl _) _
    have ka : Blk w1 w.heap.size 47 #[.int .i64 1, .int .i64 7, .int .i64 0] := hw1 ▸ Blk.new w _ _
    have HW1 := h.later hb1
    have E0 : ∀ d os, (grow (redrawn w1 d) os).cell? ⟨bw, 0, none⟩ = some (.string s) := fun d os => cell_regrown HW1.blk.two.1 d os
    have E1 : ∀ d os, (grow (redrawn w1 d) os).cell? ⟨bw, 1, none⟩ = some (.slice a n c) := fun d os => cell_regrown HW1.blk.two.2.1 d os
    have HS : Hid (∀ d os, Spc (grow (redrawn w1 d) os)) := fun d os => HW1.spc.below (below_regrown w1 d os)
    have hword := fun wx hT => wordSub_any s wx hT
    simp only [h1] at hword
    have HWORD := Lib.hid hword
    clear hword
    have KA := Lib.hid ka
    have HB1 := Lib.hid hb1
    have H1 := Lib.hid HW1
    clear ka hb1 HW1
    go_enter Tryd.func71, Tryd.ntmps71
    go_wp2
    rw [← hw1]
    have HE := Lib.hid hw1
    clear hw1
    refine wp_region_quiet_below (by kernel_rfl) (by kernel_rfl) ?_
    repeat (go_big_quiet_step (exact Calls.regrown_of (HWORD.out _ (HS.out _ _))))
    refine wpQuiet_nil ?_
    intro _ hw'
    obtain ⟨⟨dq, osq⟩, hw''⟩ := hw'
    subst hw''
    have HB2 : Hid (Below w1.heap.size w1 (grow (redrawn w1 dq) osq)) := below_regrown w1 dq osq
    generalize grow (redrawn w1 dq) osq = w2 at *
    have H2 : Hid (Wr w0 w2 bw s (.slice a n c) l) := H1.out.later HB2.out
    obtain ⟨e0, e1, f0, f1⟩ := H2.out.blk.two
    clear E0 E1 HS
    cases h2 : inL wAdd s
    · have hword := fun wx hT => wordAdd_any s wx hT
      simp only [h2] at hword
      have HWORD2 := Lib.hid hword
      clear hword
      go_wp2_with fail
      refine (HWORD2.out _ H2.out.spc).mono ?_
      rintro e w3 ⟨rfl, hb3⟩
      have H3 : Hid (Wr w0 w3 bw s (.slice a n c) l) := H2.out.later hb3
      have HB3 := Lib.hid hb3
      clear e0 e1 f0 f1 hb3
      obtain ⟨e0, e1, f0, f1⟩ := H3.out.blk.two
      go_wp2
      go_end0
      exact ⟨rfl, _, by rw [HV.out]; exact H3.out⟩
    · have n1 := N1.out h2
      have hword := fun wx hT => wordAdd_any s wx hT
      simp only [h2] at hword
      have HWORD2 := Lib.hid hword
      clear hword
      go_wp2_with fail
      refine (HWORD2.out _ H2.out.spc).mono ?_
      rintro e w3 ⟨rfl, hb3⟩
      have H3 : Hid (Wr w0 w3 bw s (.slice a n c) l) := H2.out.later hb3
      have HB3 := Lib.hid hb3
      clear e0 e1 f0 f1 hb3
      obtain ⟨e0, e1, f0, f1⟩ := H3.out.blk.two
      go_wp2
      go_end0
      exact ⟨rfl, _, by rw [HV.out]; exact H3.out⟩

set_option maxHeartbeats 2000000 in
theorem acc_two (w0 w : World) (bw : Nat) (s : ByteArray) (a : Option Addr) (n c : Nat) (x y : Opd) (l : List Opd) (hl : l = [x, y]) (h : Wr w0 w bw s (.slice a n c) l) :
    Calls Tryd.prog 71 #[.pointer (some ⟨bw, 0, none⟩)] w fun e w' => e = .returned (.tuple #[]) ∧ ∃ v', Wr w0 w' bw s v' (accum s l) := by
  have hown := h.own
  obtain ⟨a', c', e', hc, hm, g⟩ := hown
  have hln : l.length = 2 := by rw [hl]; rfl
  injection e' with e1 e2 e3
  subst e1 e3
  obtain rfl : n = 2 := by rw [e2, hln]
  obtain ⟨b, o, rfl, hq, hb, c0, c1, c2, _⟩ := g 0 x (by rw [hl]; rfl)
  obtain ⟨b', o', eb, hq', hb', d0, d1, d2, df⟩ := g 1 y (by rw [hl]; rfl)
  injection eb with eb
  injection eb with eb1 eb2
  subst eb1 eb2
  simp only [Nat.zero_mul, Nat.add_zero, Nat.one_mul] at c0 c1 c2 d0 d1 d2
  have h3 : c ≠ 1 := by rw [hln] at hc; omega
  have DF : Hid (w.cell? ⟨b, o + 3, none⟩ = some (.int .i64 y.kind) ∧ w.cell? ⟨b, o + 3 + 1, none⟩ = some (.int .i64 y.reg) ∧ w.cell? ⟨b, o + 3 + 2, none⟩ = some (.int .i64 y.n) ∧ ∀ j, w.frozen? ⟨b, j, none⟩ = false) := ⟨d0, d1, d2, df⟩
  have HC : Hid (2 ≤ c ∧ c ≤ 9223372036854775807) := by rw [hln] at hc; exact ⟨hc, hm⟩
  clear g d0 d1 d2 df hc hm e2 hln hb' hq'
  have hop := run_eqOpd
  cases h1 : inL wSub s
  · have HV := Lib.hid (show accum s l = l by rw [hl]; simp [accum, h1])
    have HL := Lib.hid hl
    clear hl
    obtain ⟨w1, hw1⟩ : ∃ w1 : World, w1 = w.alloc (.cells #[.int .i64 1, .int .i64 7, .int .i64 0] 47) := ⟨_, rfl⟩
    have hb1 : Below w.heap.size w w1 := hw1 ▸ (Below.refl _ _).alloc (Nat.le_refl _) _
    have ka : Blk w1 w.heap.size 47 #[.int .i64 1, .int .i64 7, .int .i64 0] := hw1 ▸ Blk.new w _ _
    have HW1 := h.later hb1
    have E0 : ∀ d os, (grow (redrawn w1 d) os).cell? ⟨bw, 0, none⟩ = some (.string s) := fun d os => cell_regrown HW1.blk.two.1 d os
    have E1 : ∀ d os, (grow (redrawn w1 d) os).cell? ⟨bw, 1, none⟩ = some (.slice (some ⟨b, o, none⟩) 2 c) := fun d os => cell_regrown HW1.blk.two.2.1 d os
    have HS : Hid (∀ d os, Spc (grow (redrawn w1 d) os)) := fun d os => HW1.spc.below (below_regrown w1 d os)
    have hword := fun wx hT => wordSub_any s wx hT
    simp only [h1] at hword
    have HWORD := Lib.hid hword
    clear hword
    have KA := Lib.hid ka
    have HB1 := Lib.hid hb1
    have H1 := Lib.hid HW1
    clear ka hb1 HW1
    go_enter Tryd.func71, Tryd.ntmps71
    go_wp2
    rw [← hw1]
    have HE := Lib.hid hw1
    clear hw1
    refine wp_region_quiet_below (by kernel_rfl) (by kernel_rfl) ?_
    repeat (go_big_quiet_step (exact Calls.regrown_of (HWORD.out _ (HS.out _ _))))
    refine wpQuiet_nil ?_
    intro _ hw'
    obtain ⟨⟨dq, osq⟩, hw''⟩ := hw'
    subst hw''
    have HB2 : Hid (Below w1.heap.size w1 (grow (redrawn w1 dq) osq)) := below_regrown w1 dq osq
    generalize grow (redrawn w1 dq) osq = w2 at *
    have H2 : Hid (Wr w0 w2 bw s (.slice (some ⟨b, o, none⟩) 2 c) l) := H1.out.later HB2.out
    obtain ⟨e0, e1, f0, f1⟩ := H2.out.blk.two
    clear E0 E1 HS
    cases h2 : inL wAdd s
    all_goals
      have hword := fun wx hT => wordAdd_any s wx hT
      simp only [h2] at hword
      have HWORD2 := Lib.hid hword
      clear hword
      go_wp2_with fail
      refine (HWORD2.out _ H2.out.spc).mono ?_
      rintro e w3 ⟨rfl, hb3⟩
      have H3 : Hid (Wr w0 w3 bw s (.slice (some ⟨b, o, none⟩) 2 c) l) := H2.out.later hb3
      have HB3 := Lib.hid hb3
      clear e0 e1 f0 f1 hb3
      obtain ⟨e0, e1, f0, f1⟩ := H3.out.blk.two
      go_wp2
      go_end0
      exact ⟨rfl, _, by rw [HV.out]; exact H3.out⟩
  · cases h4 : opdEq x regA
    · have HV := Lib.hid (show accum s l = l by rw [hl]; simp [accum, h1, h4])
      have HL := Lib.hid hl
      clear hl
      have hx : opdEq ⟨x.kind, x.reg, x.n⟩ ⟨1, 7, 0⟩ = false := h4
      obtain ⟨w1, hw1⟩ : ∃ w1 : World, w1 = w.alloc (.cells #[.int .i64 1, .int .i64 7, .int .i64 0] 47) := ⟨_, rfl⟩
      have hb1 : Below w.heap.size w w1 := hw1 ▸ (Below.refl _ _).alloc (Nat.le_refl _) _
      have ka : Blk w1 w.heap.size 47 #[.int .i64 1, .int .i64 7, .int .i64 0] := hw1 ▸ Blk.new w _ _
      have HW1 := h.later hb1
      have E0 : ∀ d os, (grow (redrawn w1 d) os).cell? ⟨bw, 0, none⟩ = some (.string s) := fun d os => cell_regrown HW1.blk.two.1 d os
      have E1 : ∀ d os, (grow (redrawn w1 d) os).cell? ⟨bw, 1, none⟩ = some (.slice (some ⟨b, o, none⟩) 2 c) := fun d os => cell_regrown HW1.blk.two.2.1 d os
      have HS : Hid (∀ d os, Spc (grow (redrawn w1 d) os)) := fun d os => HW1.spc.below (below_regrown w1 d os)
      have C0 : ∀ d os, (grow (redrawn w1 d) os).cell? ⟨b, o, none⟩ = some (.int .i64 x.kind) := fun d os => cell_regrown ((hb1.cell (p := ⟨b, o, none⟩) hb).trans c0) d os
      have C1 : ∀ d os, (grow (redrawn w1 d) os).cell? ⟨b, o + 1, none⟩ = some (.int .i64 x.reg) := fun d os => cell_regrown ((hb1.cell (p := ⟨b, o + 1, none⟩) hb).trans c1) d os
      have C2 : ∀ d os, (grow (redrawn w1 d) os).cell? ⟨b, o + 2, none⟩ = some (.int .i64 x.n) := fun d os => cell_regrown ((hb1.cell (p := ⟨b, o + 2, none⟩) hb).trans c2) d os
      have A0 : ∀ d os, (grow (redrawn w1 d) os).cell? ⟨w.heap.size, 0, none⟩ = some (.int .i64 1) := fun d os => cell_regrown ka.three.1 d os
      have A1 : ∀ d os, (grow (redrawn w1 d) os).cell? ⟨w.heap.size, 1, none⟩ = some (.int .i64 7) := fun d os => cell_regrown ka.three.2.1 d os
      have A2 : ∀ d os, (grow (redrawn w1 d) os).cell? ⟨w.heap.size, 2, none⟩ = some (.int .i64 0) := fun d os => cell_regrown ka.three.2.2.1 d os
      have hword := fun wx hT => wordSub_any s wx hT
      simp only [h1] at hword
      have HWORD := Lib.hid hword
      clear hword
      have KA := Lib.hid ka
      have HB1 := Lib.hid hb1
      have H1 := Lib.hid HW1
      clear ka hb1 HW1
      go_enter Tryd.func71, Tryd.ntmps71
      go_wp2
      rw [← hw1]
      have HE := Lib.hid hw1
      clear hw1
      refine wp_region_quiet_below (by kernel_rfl) (by kernel_rfl) ?_
      repeat (go_big_quiet_step (exact Calls.regrown_of (HWORD.out _ (HS.out _ _))))
      refine wpQuiet_nil ?_
      intro _ hw'
      obtain ⟨⟨dq, osq⟩, hw''⟩ := hw'
      subst hw''
      have HB2 : Hid (Below w1.heap.size w1 (grow (redrawn w1 dq) osq)) := below_regrown w1 dq osq
      generalize grow (redrawn w1 dq) osq = w2 at *
      have H2 : Hid (Wr w0 w2 bw s (.slice (some ⟨b, o, none⟩) 2 c) l) := H1.out.later HB2.out
      obtain ⟨e0, e1, f0, f1⟩ := H2.out.blk.two
      clear E0 E1 HS C0 C1 C2 A0 A1 A2
      cases h2 : inL wAdd s
      all_goals
        have hword := fun wx hT => wordAdd_any s wx hT
        simp only [h2] at hword
        have HWORD2 := Lib.hid hword
        clear hword
        go_wp2_with fail
        refine (HWORD2.out _ H2.out.spc).mono ?_
        rintro e w3 ⟨rfl, hb3⟩
        have H3 : Hid (Wr w0 w3 bw s (.slice (some ⟨b, o, none⟩) 2 c) l) := H2.out.later hb3
        have HB3 := Lib.hid hb3
        clear e0 e1 f0 f1 hb3
        obtain ⟨e0, e1, f0, f1⟩ := H3.out.blk.two
        go_wp2
        go_end0
        exact ⟨rfl, _, by rw [HV.out]; exact H3.out⟩
    · have HV := Lib.hid (show accum s l = [y] by rw [hl]; simp [accum, h1, h4])
      have HL := Lib.hid hl
      clear hl
      have hx : opdEq ⟨x.kind, x.reg, x.n⟩ ⟨1, 7, 0⟩ = true := h4
      obtain ⟨w1, hw1⟩ : ∃ w1 : World, w1 = w.alloc (.cells #[.int .i64 1, .int .i64 7, .int .i64 0] 47) := ⟨_, rfl⟩
      have hb1 : Below w.heap.size w w1 := hw1 ▸ (Below.refl _ _).alloc (Nat.le_refl _) _
      have ka : Blk w1 w.heap.size 47 #[.int .i64 1, .int .i64 7, .int .i64 0] := hw1 ▸ Blk.new w _ _
      have HW1 := h.later hb1
      have E0 : ∀ d os, (grow (redrawn w1 d) os).cell? ⟨bw, 0, none⟩ = some (.string s) := fun d os => cell_regrown HW1.blk.two.1 d os
      have E1 : ∀ d os, (grow (redrawn w1 d) os).cell? ⟨bw, 1, none⟩ = some (.slice (some ⟨b, o, none⟩) 2 c) := fun d os => cell_regrown HW1.blk.two.2.1 d os
      have HS : Hid (∀ d os, Spc (grow (redrawn w1 d) os)) := fun d os => HW1.spc.below (below_regrown w1 d os)
      have C0 : ∀ d os, (grow (redrawn w1 d) os).cell? ⟨b, o, none⟩ = some (.int .i64 x.kind) := fun d os => cell_regrown ((hb1.cell (p := ⟨b, o, none⟩) hb).trans c0) d os
      have C1 : ∀ d os, (grow (redrawn w1 d) os).cell? ⟨b, o + 1, none⟩ = some (.int .i64 x.reg) := fun d os => cell_regrown ((hb1.cell (p := ⟨b, o + 1, none⟩) hb).trans c1) d os
      have C2 : ∀ d os, (grow (redrawn w1 d) os).cell? ⟨b, o + 2, none⟩ = some (.int .i64 x.n) := fun d os => cell_regrown ((hb1.cell (p := ⟨b, o + 2, none⟩) hb).trans c2) d os
      have A0 : ∀ d os, (grow (redrawn w1 d) os).cell? ⟨w.heap.size, 0, none⟩ = some (.int .i64 1) := fun d os => cell_regrown ka.three.1 d os
      have A1 : ∀ d os, (grow (redrawn w1 d) os).cell? ⟨w.heap.size, 1, none⟩ = some (.int .i64 7) := fun d os => cell_regrown ka.three.2.1 d os
      have A2 : ∀ d os, (grow (redrawn w1 d) os).cell? ⟨w.heap.size, 2, none⟩ = some (.int .i64 0) := fun d os => cell_regrown ka.three.2.2.1 d os
      have hword := fun wx hT => wordSub_any s wx hT
      simp only [h1] at hword
      have HWORD := Lib.hid hword
      clear hword
      have KA := Lib.hid ka
      have HB1 := Lib.hid hb1
      have H1 := Lib.hid HW1
      clear ka hb1 HW1
      go_enter Tryd.func71, Tryd.ntmps71
      go_wp2
      rw [← hw1]
      have HE := Lib.hid hw1
      clear hw1
      refine wp_region_quiet_below (by kernel_rfl) (by kernel_rfl) ?_
      repeat (go_big_quiet_step (exact Calls.regrown_of (HWORD.out _ (HS.out _ _))))
      refine wpQuiet_nil ?_
      intro _ hw'
      obtain ⟨⟨dq, osq⟩, hw''⟩ := hw'
      subst hw''
      have HB2 : Hid (Below w1.heap.size w1 (grow (redrawn w1 dq) osq)) := below_regrown w1 dq osq
      generalize grow (redrawn w1 dq) osq = w2 at *
      have H2 : Hid (Wr w0 w2 bw s (.slice (some ⟨b, o, none⟩) 2 c) l) := H1.out.later HB2.out
      obtain ⟨e0, e1, f0, f1⟩ := H2.out.blk.two
      clear E0 E1 HS C0 C1 C2 A0 A1 A2
      go_wp2
      go_end0
      refine ⟨rfl, .slice (some ⟨b, o + 3, none⟩) 1 (c - 1), ?_⟩
      rw [HV.out]
      refine H2.out.set (OpdOwn.below (w := w1) (OpdOwn.below (w := w) ⟨_, _, rfl, ?_, ?_, fun i z hz => ?_⟩ HB1.out) HB2.out)
      · have := HC.out; simp; omega
      · have := HC.out; omega
      · match i, hz with
        | 0, hz =>
          simp at hz
          subst hz
          exact ⟨b, o + 3, rfl, hq, hb, DF.out⟩
        | i + 1, hz => simp at hz

set_option maxHeartbeats 2000000 in
theorem acc_one (w0 w : World) (bw : Nat) (s : ByteArray) (a : Option Addr) (n c : Nat) (x : Opd) (l : List Opd) (hl : l = [x]) (h : Wr w0 w bw s (.slice a n c) l) :
    Calls Tryd.prog 71 #[.pointer (some ⟨bw, 0, none⟩)] w fun e w' => e = .returned (.tuple #[]) ∧ ∃ v', Wr w0 w' bw s v' (accum s l) := by
  have hown := h.own
  obtain ⟨a', c', e', hc, hm, g⟩ := hown
  have hln : l.length = 1 := by rw [hl]; rfl
  injection e' with e1 e2 e3
  subst e1 e3
  obtain rfl : n = 1 := by rw [e2, hln]
  cases h2 : inL wAdd s
  · exact acc_none w0 w bw s a 1 c l h (by rw [hl]; simp [accum, h2]) (fun h => by rw [h2] at h; cases h) (fun _ => rfl)
  · have HV := Lib.hid (show accum s l = [regA, x] by rw [hl]; simp [accum, h2])
    obtain ⟨b, o, rfl, hq, hb, c0, c1, c2, _⟩ := g 0 x (by rw [hl]; rfl)
    simp only [Nat.zero_mul, Nat.add_zero] at c0 c1 c2
    have HX : Hid (w.cell? ⟨b, o, none⟩ = some (.int .i64 x.kind) ∧ w.cell? ⟨b, o + 1, none⟩ = some (.int .i64 x.reg) ∧ w.cell? ⟨b, o + 2, none⟩ = some (.int .i64 x.n)) := ⟨c0, c1, c2⟩
    have HBB := Lib.hid hb
    have HBN : Hid (b ≠ bw) := hq.2
    clear g hc hm e2 hln c0 c1 c2 hb hq
    have HL := Lib.hid hl
    clear hl
    cases h1 : inL wSub s
    all_goals
      obtain ⟨w1, hw1⟩ : ∃ w1 : World, w1 = w.alloc (.cells #[.int .i64 1, .int .i64 7, .int .i64 0] 47) := ⟨_, rfl⟩
      have hb1 : Below w.heap.size w w1 := hw1 ▸ (Below.refl _ _).alloc (Nat.le_refl _) _
      have ka : Blk w1 w.heap.size 47 #[.int .i64 1, .int .i64 7, .int .i64 0] := hw1 ▸ Blk.new w _ _
      have HW1 := h.later hb1
      have E0 : ∀ d os, (grow (redrawn w1 d) os).cell? ⟨bw, 0, none⟩ = some (.string s) := fun d os => cell_regrown HW1.blk.two.1 d os
      have E1 : ∀ d os, (grow (redrawn w1 d) os).cell? ⟨bw, 1, none⟩ = some (.slice (some ⟨b, o, none⟩) 1 c) := fun d os => cell_regrown HW1.blk.two.2.1 d os
      have HS : Hid (∀ d os, Spc (grow (redrawn w1 d) os)) := fun d os => HW1.spc.below (below_regrown w1 d os)
      have hword := fun wx hT => wordSub_any s wx hT
      simp only [h1] at hword
      have HWORD := Lib.hid hword
      clear hword
      have KA := Lib.hid ka
      have HB1 := Lib.hid hb1
      have H1 := Lib.hid HW1
      clear ka hb1 HW1
      go_enter Tryd.func71, Tryd.ntmps71
      go_wp2
      rw [← hw1]
      have HE := Lib.hid hw1
      clear hw1
      refine wp_region_quiet_below (by kernel_rfl) (by kernel_rfl) ?_
      repeat (go_big_quiet_step (exact Calls.regrown_of (HWORD.out _ (HS.out _ _))))
      refine wpQuiet_nil ?_
      intro _ hw'
      obtain ⟨⟨dq, osq⟩, hw''⟩ := hw'
      subst hw''
      have HB2 : Hid (Below w1.heap.size w1 (grow (redrawn w1 dq) osq)) := below_regrown w1 dq osq
      generalize grow (redrawn w1 dq) osq = w2 at *
      have H2 : Hid (Wr w0 w2 bw s (.slice (some ⟨b, o, none⟩) 1 c) l) := H1.out.later HB2.out
      obtain ⟨e0, e1, f0, f1⟩ := H2.out.blk.two
      clear E0 E1 HS
      have hword := fun wx hT => wordAdd_any s wx hT
      simp only [h2] at hword
      have HWORD2 := Lib.hid hword
      clear hword
      go_wp2_with fail
      refine (HWORD2.out _ H2.out.spc).mono ?_
      rintro e w3 ⟨rfl, hb3⟩
      have H3 : Hid (Wr w0 w3 bw s (.slice (some ⟨b, o, none⟩) 1 c) l) := H2.out.later hb3
      have HB3 := Lib.hid hb3
      clear e0 e1 f0 f1 hb3
      obtain ⟨e0, e1, f0, f1⟩ := H3.out.blk.two
      have hbb := HBB.out
      have c0 := (HB3.out.cell (p := ⟨b, o, none⟩) (Nat.lt_of_lt_of_le (Nat.lt_of_lt_of_le hbb HB1.out.size) HB2.out.size)).trans ((HB2.out.cell (p := ⟨b, o, none⟩) (Nat.lt_of_lt_of_le hbb HB1.out.size)).trans ((HB1.out.cell (p := ⟨b, o, none⟩) hbb).trans HX.out.1))
      have c1 := (HB3.out.cell (p := ⟨b, o + 1, none⟩) (Nat.lt_of_lt_of_le (Nat.lt_of_lt_of_le hbb HB1.out.size) HB2.out.size)).trans ((HB2.out.cell (p := ⟨b, o + 1, none⟩) (Nat.lt_of_lt_of_le hbb HB1.out.size)).trans ((HB1.out.cell (p := ⟨b, o + 1, none⟩) hbb).trans HX.out.2.1))
      have c2 := (HB3.out.cell (p := ⟨b, o + 2, none⟩) (Nat.lt_of_lt_of_le (Nat.lt_of_lt_of_le hbb HB1.out.size) HB2.out.size)).trans ((HB2.out.cell (p := ⟨b, o + 2, none⟩) (Nat.lt_of_lt_of_le hbb HB1.out.size)).trans ((HB1.out.cell (p := ⟨b, o + 2, none⟩) hbb).trans HX.out.2.2))
      have kk := (KA.out.below HB2.out KA.out.lt).below HB3.out (Nat.lt_of_lt_of_le KA.out.lt HB2.out.size)
      obtain ⟨k0, k1, k2, _, _, _⟩ := kk.three
      have hne : bw < w3.heap.size := H3.out.blk.lt
      clear hbb kk
      go_wp2
      go_region
      all_goals go_wp2
      all_goals go_end0
      all_goals
        refine ⟨rfl, .slice (some ⟨w3.heap.size, 0, none⟩) 2 2, ?_⟩
        rw [HV.out]
        exact H3.out.setNew _ (by simp [regA, Opd.cells])

theorem acc_any (w0 w : World) (bw : Nat) (s : ByteArray) (v : Value) (l : List Opd) (h : Wr w0 w bw s v l) :
    Calls Tryd.prog 71 #[.pointer (some ⟨bw, 0, none⟩)] w fun e w' => e = .returned (.tuple #[]) ∧ ∃ v', Wr w0 w' bw s v' (accum s l) := by
  obtain ⟨a, c, rfl, _⟩ := h.own
  match l, h with
  | [], h => exact acc_none w0 w bw s a _ c _ h rfl (fun _ => rfl) (fun _ => rfl)
  | [x], h => exact acc_one w0 w bw s a _ c x _ rfl h
  | [x, y], h => exact acc_two w0 w bw s a _ c x y _ rfl h
  | x :: y :: z :: l, h => exact acc_none w0 w bw s a _ c _ h rfl (fun _ => by simp; omega) (fun _ => by simp; omega)
end Go.Proofs.YtkkjoghfdmmpaaaDoor
