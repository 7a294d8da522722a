/-
  The reference's operands, instructions, operations with the accumulator. Conditions: none.
-/
import Derived.Test.YtlepicdjnbbndaaGreatDoorG1
import Derived.Test.YtlepicdjnbbndaaGreatDoorTA
/-
  Blocks that a walk holds on to. Conditions: none.
-/
namespace Go.Proofs.YtlepicdjnbbndaaGreatDoor
open Go.RowKit

/-- since w0 nothing below has turned; the listed blocks hold the listed cells -/
structure Fr (w0 : World) (L : List (Nat × TypeId × Array Value)) (w : World) : Prop where
  below : Below w0.heap.size w0 w
  at' : ∀ x ∈ L, Blk w x.1 x.2.1 x.2.2
theorem Fr.start (w : World) : Fr w [] w := ⟨Below.refl _ _, fun _ h => by cases h⟩
theorem Fr.blk {w0 w : World} {L : List (Nat × TypeId × Array Value)} (h : Fr w0 L w) (i : Nat) {b : Nat} {t : TypeId} {cs : Array Value} (hi : L[i]? = some (b, t, cs)) : Blk w b t cs := h.at' _ (List.mem_of_getElem? hi)
theorem Fr.mem {w0 w : World} {L : List (Nat × TypeId × Array Value)} (h : Fr w0 L w) (b : Nat) (t : TypeId) (cs : Array Value) (hi : (b, t, cs) ∈ L) : Blk w b t cs := h.at' _ hi
theorem Fr.next {w0 W w1 : World} {L : List (Nat × TypeId × Array Value)} (h : Fr w0 L W) (hb : Below W.heap.size W w1) : Fr w0 L w1 :=
  ⟨h.below.trans (hb.mono h.below.size), fun x hx => (h.at' x hx).below hb (h.at' x hx).lt⟩
theorem Fr.drew {w0 W : World} {L : List (Nat × TypeId × Array Value)} (h : Fr w0 L W) : Fr w0 L W.drew := h.next (Below.refl _ _).drew
theorem Fr.drewN {w0 W : World} {L : List (Nat × TypeId × Array Value)} (h : Fr w0 L W) (n : Nat) : Fr w0 L (W.drewN n) := h.next (below_dN (Below.refl _ _) n)
theorem Fr.alloc {w0 W : World} {L : List (Nat × TypeId × Array Value)} (h : Fr w0 L W) (o : Obj) : Fr w0 L (W.alloc o) := h.next ((Below.refl _ _).alloc (Nat.le_refl _) o)
theorem Fr.new {w0 W : World} {L : List (Nat × TypeId × Array Value)} (h : Fr w0 L W) (t : TypeId) (cs : Array Value) : Fr w0 ((W.heap.size, t, cs) :: L) (W.alloc (.cells cs t)) :=
  ⟨(h.alloc _).below, fun x hx => by
    rcases List.mem_cons.1 hx with rfl | hx
    · exact Blk.new W t cs
    · exact (h.alloc _).at' x hx⟩
theorem Fr.new' {w0 W : World} {L : List (Nat × TypeId × Array Value)} (h : Fr w0 L W) (t : TypeId) (cs : Array Value) {b : Nat} (hb : W.heap.size = b) : Fr w0 ((b, t, cs) :: L) (W.alloc (.cells cs t)) := by
  subst hb; exact h.new t cs
theorem Fr.set {w0 W : World} {L : List (Nat × TypeId × Array Value)} {b : Nat} {t : TypeId} {cs : Array Value} (h : Fr w0 ((b, t, cs) :: L) W) (hb : w0.heap.size ≤ b) (hn : ∀ x ∈ L, x.1 ≠ b) (i : Nat) (u : Value) : Fr w0 ((b, t, cs.setIfInBounds i u) :: L) (W.setCell ⟨b, i, none⟩ u) :=
  ⟨h.below.setCell hb _, fun x hx => by
    rcases List.mem_cons.1 hx with rfl | hx
    · exact (h.blk 0 rfl).set i u
    · exact (h.at' x (by simp [hx])).far (hn x hx) u⟩
theorem Fr.set3 {w0 W : World} {L : List (Nat × TypeId × Array Value)} {b : Nat} {t : TypeId} {x y z : Value} (h : Fr w0 ((b, t, #[x, y, z]) :: L) W) (hb : w0.heap.size ≤ b) (hn : ∀ x ∈ L, x.1 ≠ b) (u0 u1 u2 : Value) :
    Fr w0 ((b, t, #[u0, u1, u2]) :: L) (((W.setCell ⟨b, 0, none⟩ u0).setCell ⟨b, 1, none⟩ u1).setCell ⟨b, 2, none⟩ u2) := ((h.set hb hn 0 u0).set hb hn 1 u1).set hb hn 2 u2
theorem Fr.drop {w0 W : World} {x : Nat × TypeId × Array Value} {L : List (Nat × TypeId × Array Value)} (h : Fr w0 (x :: L) W) : Fr w0 L W := ⟨h.below, fun y hy => h.at' y (by simp [hy])⟩
theorem Fr.sub {w0 W : World} {L M : List (Nat × TypeId × Array Value)} (h : Fr w0 L W) (hs : ∀ x ∈ M, x ∈ L) : Fr w0 M W := ⟨h.below, fun y hy => h.at' y (hs y hy)⟩
theorem Fr.size {w0 W : World} {L : List (Nat × TypeId × Array Value)} (h : Fr w0 L W) : w0.heap.size ≤ W.heap.size := h.below.size
end Go.Proofs.YtlepicdjnbbndaaGreatDoor

/-
  The reference's operands and instructions. Conditions: none.
-/
namespace Go.Proofs.YtlepicdjnbbndaaGreatDoor
open Go.RowKit Go.Shelf Go.Sort

def rF (n : Int) : Opd := if n = 6 then ⟨4, 2, 0⟩ else ⟨1, n, 0⟩
def rpF (n last : Int) : Opd := if n = 3 then ⟨3, last, 0⟩ else ⟨3, n, 0⟩
def immO (n : Int) : Opd := ⟨6, 0, n⟩
def memO : Opd := ⟨7, 0, 0⟩
def ccO (n : Int) : Opd := ⟨8, n, 0⟩
def indO (n : Int) : Opd := ⟨4, n, 0⟩
def relO : Opd := ⟨10, 0, 0⟩
def accO : Opd := ⟨1, 7, 0⟩
theorem rF_6 : rF 6 = ⟨4, 2, 0⟩ := rfl
theorem rF_n {n : Int} (h : n ≠ 6) : rF n = ⟨1, n, 0⟩ := if_neg h
theorem rpF_3 (last : Int) : rpF 3 last = ⟨3, last, 0⟩ := rfl
theorem rpF_n {n : Int} (last : Int) (h : n ≠ 3) : rpF n last = ⟨3, n, 0⟩ := if_neg h
/-- what a function that makes an operand leaves -/
def OpdP (o : Opd) (w : World) (e : Ending) (w' : World) : Prop := e = .returned (.agg #[.int .i64 o.kind, .int .i64 o.reg, .int .i64 o.n]) ∧ Below w.heap.size w w'
theorem opd_end {fn : Func} {p : Tmp} (h : fn.results = #[.cell p 87]) {tmps : Array Value} {w' : World} {o : Opd} {g : Nat} (hp : tmps.getD p undef = .pointer (some ⟨g, 0, none⟩))
    (hg : Blk w' g 87 #[.int .i64 o.kind, .int .i64 o.reg, .int .i64 o.n]) : (results fn tmps).run Tryz.prog w' = .ok (.agg #[.int .i64 o.kind, .int .i64 o.reg, .int .i64 o.n]) w' :=
  results_row1 h tmps w' g 87 _ (0, 0) _ hp hg Tryz.underlying87 rfl (by kernel_rfl)
theorem ins_end {fn : Func} {p : Tmp} (h : fn.results = #[.cell p 25]) {tmps : Array Value} {w' : World} {s v : Value} {g : Nat} (hp : tmps.getD p undef = .pointer (some ⟨g, 0, none⟩))
    (hg : Blk w' g 25 #[s, v]) : (results fn tmps).run Tryz.prog w' = .ok (.agg #[s, v]) w' :=
  results_row1 h tmps w' g 25 _ (0, 0) _ hp hg Tryz.underlying25 rfl (by kernel_rfl)
theorem OpdOwn.form {w : World} {q : Blocks} {v : Value} {l : List Opd} (h : OpdOwn w q v l) : ∃ a c, v = .slice a l.length c := by obtain ⟨a, c, e, _⟩ := h; exact ⟨a, c, e⟩
theorem OpdOwn.far {w : World} {q : Blocks} {v : Value} {l : List Opd} (h : OpdOwn w q v l) {p : Addr} (hq : ∀ k, q k → k ≠ p.block) (u : Value) : OpdOwn (w.setCell p u) q v l := h.keep (Keep.setCell hq u)
theorem opdOwn_none (w : World) (q : Blocks) : OpdOwn w q (.slice none 0 0) [] := ⟨none, 0, rfl, Nat.le_refl _, by omega, fun i x h => by simp at h⟩
/-- an instruction put into the result's two cells -/
theorem put_ins {w0 w1 : World} {q : Blocks} {b : Nat} {v x y : Value} {l : List Opd} (hB : Below w0.heap.size w0 w1) (ho : OpdOwn w1 q v l) (hq : ∀ k, q k → b < k) (hb : w0.heap.size ≤ b) :
    OpdOwn ((w1.setCell ⟨b, 0, none⟩ x).setCell ⟨b, 1, none⟩ y) (fun k => w0.heap.size ≤ k) v l ∧ Below w0.heap.size w0 ((w1.setCell ⟨b, 0, none⟩ x).setCell ⟨b, 1, none⟩ y) :=
  ⟨((ho.far (p := ⟨b, 0, none⟩) (fun k hk => Nat.ne_of_gt (hq k hk)) x).far (p := ⟨b, 1, none⟩) (fun k hk => Nat.ne_of_gt (hq k hk)) y).mono (fun k hk => Nat.le_trans hb (Nat.le_of_lt (hq k hk))), (hB.setCell hb _).setCell hb _⟩
set_option maxHeartbeats 1000000 in
theorem r_any (n : Int) (w : World) : Calls Tryz.prog 51 #[.int .i64 n] w (OpdP (rF n) w) := by
  by_cases h : n = 6
  · subst h
    rw [rF_6]
    go_enter Tryz.func51, Tryz.ntmps51
    go_wp2
    refine bodyPost_ret (opd_end (o := ⟨4, 2, 0⟩) rfl rfl (Blk.new w _ _)) rfl ⟨rfl, (Below.refl _ _).alloc (Nat.le_refl _) _⟩
  · rw [rF_n h]
    go_enter Tryz.func51, Tryz.ntmps51
    go_wp2
    refine bodyPost_ret (opd_end (o := ⟨1, n, 0⟩) rfl rfl (Blk.new w _ _)) rfl ⟨rfl, (Below.refl _ _).alloc (Nat.le_refl _) _⟩
set_option maxHeartbeats 1000000 in
theorem rp_any (n last : Int) (w : World) : Calls Tryz.prog 103 #[.int .i64 n, .int .i64 last] w (OpdP (rpF n last) w) := by
  by_cases h : n = 3
  · subst h
    rw [rpF_3]
    go_enter Tryz.func103, Tryz.ntmps103
    go_wp2
    refine bodyPost_ret (opd_end (o := ⟨3, last, 0⟩) rfl rfl (Blk.new w _ _)) rfl ⟨rfl, (Below.refl _ _).alloc (Nat.le_refl _) _⟩
  · rw [rpF_n last h]
    go_enter Tryz.func103, Tryz.ntmps103
    go_wp2
    refine bodyPost_ret (opd_end (o := ⟨3, n, 0⟩) rfl rfl (Blk.new w _ _)) rfl ⟨rfl, (Below.refl _ _).alloc (Nat.le_refl _) _⟩
set_option maxHeartbeats 1000000 in
theorem imm9_any (n : Int) (w : World) : Calls Tryz.prog 102 #[.int .i64 n] w (OpdP (immO n) w) := by
  go_enter Tryz.func102, Tryz.ntmps102
  go_wp2
  refine bodyPost_ret (opd_end (o := immO n) rfl rfl (Blk.new w _ _)) rfl ⟨rfl, (Below.refl _ _).alloc (Nat.le_refl _) _⟩
set_option maxHeartbeats 1000000 in
theorem mem9_any (w : World) : Calls Tryz.prog 105 #[] w (OpdP (memO) w) := by
  go_enter Tryz.func105, Tryz.ntmps105
  go_wp2
  refine bodyPost_ret (opd_end (o := memO) rfl rfl (Blk.new w _ _)) rfl ⟨rfl, (Below.refl _ _).alloc (Nat.le_refl _) _⟩
set_option maxHeartbeats 1000000 in
theorem cc9_any (n : Int) (w : World) : Calls Tryz.prog 153 #[.int .i64 n] w (OpdP (ccO n) w) := by
  go_enter Tryz.func153, Tryz.ntmps153
  go_wp2
  refine bodyPost_ret (opd_end (o := ccO n) rfl rfl (Blk.new w _ _)) rfl ⟨rfl, (Below.refl _ _).alloc (Nat.le_refl _) _⟩
set_option maxHeartbeats 1000000 in
theorem ind9_any (n : Int) (w : World) : Calls Tryz.prog 104 #[.int .i64 n] w (OpdP (indO n) w) := by
  go_enter Tryz.func104, Tryz.ntmps104
  go_wp2
  refine bodyPost_ret (opd_end (o := indO n) rfl rfl (Blk.new w _ _)) rfl ⟨rfl, (Below.refl _ _).alloc (Nat.le_refl _) _⟩
set_option maxHeartbeats 1000000 in
theorem rel9_any (w : World) : Calls Tryz.prog 152 #[] w (OpdP (relO) w) := by
  go_enter Tryz.func152, Tryz.ntmps152
  go_wp2
  refine bodyPost_ret (opd_end (o := relO) rfl rfl (Blk.new w _ _)) rfl ⟨rfl, (Below.refl _ _).alloc (Nat.le_refl _) _⟩
set_option maxHeartbeats 1000000 in
theorem acc9_any (w : World) : Calls Tryz.prog 106 #[] w (OpdP accO w) := by
  have HR := Lib.hid (fun W => r_any 7 W)
  rw [rF_n (by omega)] at HR
  have HF := Lib.hid (Blk.new w 87 #[.int .i64 0, .int .i64 0, .int .i64 0])
  have HAL := Lib.hid ((Below.refl w.heap.size w).alloc (Nat.le_refl _) (.cells #[.int .i64 0, .int .i64 0, .int .i64 0] 87))
  go_enter Tryz.func106, Tryz.ntmps106
  go_wp2_with (go_at_call 51; refine (HR.out _).mono ?_; rintro e w1 ⟨rfl, hb⟩; have HB := Lib.hid (HAL.out.trans (hb.mono HAL.out.size)); have HK := Lib.hid (HF.out.below hb HF.out.lt); obtain ⟨z0, z1, z2, y0, y1, y2⟩ := HK.out.three; clear hb)
  refine bodyPost_ret (opd_end (o := accO) rfl rfl (((HK.out.set 0 _).set 1 _).set 2 _)) rfl ⟨rfl, ?_⟩
  exact ((HB.out.setCell (Nat.le_refl _) _).setCell (Nat.le_refl _) _).setCell (Nat.le_refl _) _
set_option maxHeartbeats 1000000 in
theorem one_any (x : Opd) (w : World) : Calls Tryz.prog 101 #[.agg #[.int .i64 x.kind, .int .i64 x.reg, .int .i64 x.n]] w fun e w' => ∃ v, e = .returned v ∧ OpdOwn w' (fun b => w.heap.size ≤ b) v [x] ∧ Below w.heap.size w w' := by
  go_enter Tryz.func101, Tryz.ntmps101
  go_wp2
  go_ret
  refine ⟨_, rfl, opdOwn_new (w := w.alloc (.cells #[.int .i64 x.kind, .int .i64 x.reg, .int .i64 x.n] 87)) [x] _ _ _ 1 (by simp) rfl rfl (by simp) (by simp), ((Below.refl _ _).alloc (Nat.le_refl _) _).alloc (by simp) _⟩
set_option maxHeartbeats 1000000 in
theorem two_any (x y : Opd) (w : World) : Calls Tryz.prog 98 #[.agg #[.int .i64 x.kind, .int .i64 x.reg, .int .i64 x.n], .agg #[.int .i64 y.kind, .int .i64 y.reg, .int .i64 y.n]] w fun e w' => ∃ v, e = .returned v ∧ OpdOwn w' (fun b => w.heap.size ≤ b) v [x, y] ∧ Below w.heap.size w w' := by
  go_enter Tryz.func98, Tryz.ntmps98
  go_wp2
  go_ret
  refine ⟨_, rfl, opdOwn_new (w := (w.alloc (.cells #[.int .i64 x.kind, .int .i64 x.reg, .int .i64 x.n] 87)).alloc (.cells #[.int .i64 y.kind, .int .i64 y.reg, .int .i64 y.n] 87)) [x, y] _ _ _ 2 (by rw [World.size_alloc, World.size_alloc]) rfl rfl (by show w.heap.size ≤ w.heap.size + 1 + 1; omega) (by simp), (((Below.refl _ _).alloc (Nat.le_refl _) _).alloc (by simp) _).alloc (by rw [World.size_alloc, World.size_alloc]; omega) _⟩
set_option maxHeartbeats 1000000 in
theorem ins9_any (s : ByteArray) (a : Option Addr) (n c : Nat) (w : World) {q : Blocks} {l : List Opd} (ho : OpdOwn w q (.slice a n c) l) : Calls Tryz.prog 97 #[.string s, .slice a n c] w fun e w' => e = .returned (.agg #[.string s, .slice a n c]) ∧ OpdOwn w' q (.slice a n c) l ∧ Below w.heap.size w w' := by
  have HO := Lib.hid ho
  clear ho
  go_enter Tryz.func97, Tryz.ntmps97
  go_wp2
  have hb := (Below.refl w.heap.size w).alloc (Nat.le_refl _) (.cells #[.string s, .slice a n c] 25)
  refine bodyPost_ret (ins_end rfl rfl (Blk.new w _ _)) rfl ⟨rfl, HO.out.below hb, hb⟩
/-- a contract carried to what the walk holds on to -/
theorem frO {f : FuncId} {args : Array Value} {w0 W : World} {L : List (Nat × TypeId × Array Value)} {o : Opd} (H : Hid (Fr w0 L W)) (h : Calls Tryz.prog f args W (OpdP o W)) : Calls Tryz.prog f args W fun e w' => e = .returned (.agg #[.int .i64 o.kind, .int .i64 o.reg, .int .i64 o.n]) ∧ Hid (Fr w0 L w') :=
  h.mono fun _ _ ⟨a, b⟩ => ⟨a, Lib.hid (H.out.next b)⟩
theorem frL {f : FuncId} {args : Array Value} {w0 W : World} {L : List (Nat × TypeId × Array Value)} {l : List Opd} {b : Nat} {t : TypeId} {cs : Array Value} (H : Hid (Fr w0 L W)) (i : Nat) (hi : L[i]? = some (b, t, cs))
    (h : Calls Tryz.prog f args W fun e w' => ∃ v, e = .returned v ∧ OpdOwn w' (fun k => W.heap.size ≤ k) v l ∧ Below W.heap.size W w') : Calls Tryz.prog f args W fun e w' => ∃ a c, e = .returned (.slice a l.length c) ∧ Hid (OpdOwn w' (fun k => b < k) (.slice a l.length c) l) ∧ Hid (Fr w0 L w') :=
  h.mono fun _ _ ⟨_, hv, ho, hb⟩ => by
    obtain ⟨a, c, rfl⟩ := ho.form
    exact ⟨a, c, hv, Lib.hid (ho.mono fun k hk => Nat.lt_of_lt_of_le (H.out.blk i hi).lt hk), Lib.hid (H.out.next hb)⟩
theorem frI {f : FuncId} {args : Array Value} {w0 W : World} {L : List (Nat × TypeId × Array Value)} {l : List Opd} {q : Blocks} {v r : Value} (H : Hid (Fr w0 L W))
    (h : Calls Tryz.prog f args W fun e w' => e = .returned r ∧ OpdOwn w' q v l ∧ Below W.heap.size W w') : Calls Tryz.prog f args W fun e w' => e = .returned r ∧ Hid (OpdOwn w' q v l) ∧ Hid (Fr w0 L w') :=
  h.mono fun _ _ ⟨hr, ho, hb⟩ => ⟨hr, Lib.hid ho, Lib.hid (H.out.next hb)⟩
end Go.Proofs.YtlepicdjnbbndaaGreatDoor

/-
  The reference's operations with the accumulator. Conditions: none.
-/
namespace Go.Proofs.YtlepicdjnbbndaaGreatDoor
open Go.RowKit Go.Shelf Go.Sort

/-- what a function that makes an instruction leaves -/
def InsP (w : World) (s : ByteArray) (l : List Opd) (e : Ending) (w' : World) : Prop := ∃ v, e = .returned (.agg #[.string s, v]) ∧ OpdOwn w' (fun b => w.heap.size ≤ b) v l ∧ Below w.heap.size w w'
set_option maxHeartbeats 2000000 in
theorem alu_0 (o : Opd) (w : World) : Calls Tryz.prog 99 #[.int .i64 0, .agg #[.int .i64 o.kind, .int .i64 o.reg, .int .i64 o.n]] w (InsP w ⟨#[65, 68, 68]⟩ [accO, o]) := by
  have H := Lib.hid ((((Fr.start w).new 87 #[.int .i64 o.kind, .int .i64 o.reg, .int .i64 o.n]).new' 25 #[.string ⟨#[]⟩, .slice none 0 0] (b := w.heap.size + 1) (by rw [World.size_alloc])).alloc (.cells #[.string ⟨#[65, 68, 68]⟩, .string ⟨#[65, 68, 67]⟩, .string ⟨#[83, 85, 66]⟩, .string ⟨#[83, 66, 67]⟩, .string ⟨#[65, 78, 68]⟩, .string ⟨#[88, 79, 82]⟩, .string ⟨#[79, 82]⟩, .string ⟨#[67, 80]⟩] 9)).drew
  obtain ⟨f0, f1, f2, _, _, _⟩ := (H.out.blk 1 rfl).three
  go_enter Tryz.func99, Tryz.ntmps99
  go_upto_region 3 with fail
  go_region_held3 (fun w' => w'.cell? ⟨w.heap.size, 0, none⟩ = some (.int .i64 o.kind) ∧ w'.cell? ⟨w.heap.size, 1, none⟩ = some (.int .i64 o.reg) ∧ w'.cell? ⟨w.heap.size, 2, none⟩ = some (.int .i64 o.n)) (go_keep)
    (first
      | (go_at_call 106; refine (frO H (acc9_any _)).mono ?_; rintro e w' ⟨rfl, H⟩; obtain ⟨f0, f1, f2, _, _, _⟩ := (H.out.blk 1 rfl).three)
      | (go_at_call 98; refine (frL H 0 rfl (two_any _ _ _)).mono ?_; rintro e w' ⟨va, vc, rfl, HO, H⟩; obtain ⟨f0, f1, f2, _, _, _⟩ := (H.out.blk 1 rfl).three)
      | (go_at_call 97; refine (frI H (ins9_any _ _ _ _ _ HO.out)).mono ?_; rintro e w' ⟨rfl, HO, H⟩; obtain ⟨e0, e1, d0, d1⟩ := (H.out.blk 0 rfl).two; obtain ⟨f0, f1, f2, _, _, _⟩ := (H.out.blk 1 rfl).three))
  go_wp2
  obtain ⟨h1, h2⟩ := put_ins (x := .string ⟨#[65, 68, 68]⟩) (y := .slice va 2 vc) H.out.below HO.out (fun k hk => hk) (Nat.le_succ _)
  exact bodyPost_ret (ins_end rfl rfl (((H.out.blk 0 rfl).set 0 _).set 1 _)) rfl ⟨_, rfl, h1, h2⟩
set_option maxHeartbeats 2000000 in
theorem alu_1 (o : Opd) (w : World) : Calls Tryz.prog 99 #[.int .i64 1, .agg #[.int .i64 o.kind, .int .i64 o.reg, .int .i64 o.n]] w (InsP w ⟨#[65, 68, 67]⟩ [accO, o]) := by
  have H := Lib.hid ((((Fr.start w).new 87 #[.int .i64 o.kind, .int .i64 o.reg, .int .i64 o.n]).new' 25 #[.string ⟨#[]⟩, .slice none 0 0] (b := w.heap.size + 1) (by rw [World.size_alloc])).alloc (.cells #[.string ⟨#[65, 68, 68]⟩, .string ⟨#[65, 68, 67]⟩, .string ⟨#[83, 85, 66]⟩, .string ⟨#[83, 66, 67]⟩, .string ⟨#[65, 78, 68]⟩, .string ⟨#[88, 79, 82]⟩, .string ⟨#[79, 82]⟩, .string ⟨#[67, 80]⟩] 9)).drew
  obtain ⟨f0, f1, f2, _, _, _⟩ := (H.out.blk 1 rfl).three
  go_enter Tryz.func99, Tryz.ntmps99
  go_upto_region 3 with fail
  go_region_held3 (fun w' => w'.cell? ⟨w.heap.size, 0, none⟩ = some (.int .i64 o.kind) ∧ w'.cell? ⟨w.heap.size, 1, none⟩ = some (.int .i64 o.reg) ∧ w'.cell? ⟨w.heap.size, 2, none⟩ = some (.int .i64 o.n)) (go_keep)
    (first
      | (go_at_call 106; refine (frO H (acc9_any _)).mono ?_; rintro e w' ⟨rfl, H⟩; obtain ⟨f0, f1, f2, _, _, _⟩ := (H.out.blk 1 rfl).three)
      | (go_at_call 98; refine (frL H 0 rfl (two_any _ _ _)).mono ?_; rintro e w' ⟨va, vc, rfl, HO, H⟩; obtain ⟨f0, f1, f2, _, _, _⟩ := (H.out.blk 1 rfl).three)
      | (go_at_call 97; refine (frI H (ins9_any _ _ _ _ _ HO.out)).mono ?_; rintro e w' ⟨rfl, HO, H⟩; obtain ⟨e0, e1, d0, d1⟩ := (H.out.blk 0 rfl).two; obtain ⟨f0, f1, f2, _, _, _⟩ := (H.out.blk 1 rfl).three))
  go_wp2
  obtain ⟨h1, h2⟩ := put_ins (x := .string ⟨#[65, 68, 67]⟩) (y := .slice va 2 vc) H.out.below HO.out (fun k hk => hk) (Nat.le_succ _)
  exact bodyPost_ret (ins_end rfl rfl (((H.out.blk 0 rfl).set 0 _).set 1 _)) rfl ⟨_, rfl, h1, h2⟩
set_option maxHeartbeats 2000000 in
theorem alu_2 (o : Opd) (w : World) : Calls Tryz.prog 99 #[.int .i64 2, .agg #[.int .i64 o.kind, .int .i64 o.reg, .int .i64 o.n]] w (InsP w ⟨#[83, 85, 66]⟩ [o]) := by
  have H := Lib.hid ((((Fr.start w).new 87 #[.int .i64 o.kind, .int .i64 o.reg, .int .i64 o.n]).new' 25 #[.string ⟨#[]⟩, .slice none 0 0] (b := w.heap.size + 1) (by rw [World.size_alloc])).alloc (.cells #[.string ⟨#[65, 68, 68]⟩, .string ⟨#[65, 68, 67]⟩, .string ⟨#[83, 85, 66]⟩, .string ⟨#[83, 66, 67]⟩, .string ⟨#[65, 78, 68]⟩, .string ⟨#[88, 79, 82]⟩, .string ⟨#[79, 82]⟩, .string ⟨#[67, 80]⟩] 9))
  obtain ⟨f0, f1, f2, _, _, _⟩ := (H.out.blk 1 rfl).three
  go_enter Tryz.func99, Tryz.ntmps99
  go_wp2_with (first
    | (go_at_call 101; refine (frL H 0 rfl (one_any _ _)).mono ?_; rintro e w' ⟨va, vc, rfl, HO, H⟩)
    | (go_at_call 97; refine (frI H (ins9_any _ _ _ _ _ HO.out)).mono ?_; rintro e w' ⟨rfl, HO, H⟩; obtain ⟨e0, e1, d0, d1⟩ := (H.out.blk 0 rfl).two))
  obtain ⟨h1, h2⟩ := put_ins (x := .string ⟨#[83, 85, 66]⟩) (y := .slice va 1 vc) H.out.below HO.out (fun k hk => hk) (Nat.le_succ _)
  exact bodyPost_ret (ins_end rfl rfl (((H.out.blk 0 rfl).set 0 _).set 1 _)) rfl ⟨_, rfl, h1, h2⟩
set_option maxHeartbeats 2000000 in
theorem alu_3 (o : Opd) (w : World) : Calls Tryz.prog 99 #[.int .i64 3, .agg #[.int .i64 o.kind, .int .i64 o.reg, .int .i64 o.n]] w (InsP w ⟨#[83, 66, 67]⟩ [accO, o]) := by
  have H := Lib.hid ((((Fr.start w).new 87 #[.int .i64 o.kind, .int .i64 o.reg, .int .i64 o.n]).new' 25 #[.string ⟨#[]⟩, .slice none 0 0] (b := w.heap.size + 1) (by rw [World.size_alloc])).alloc (.cells #[.string ⟨#[65, 68, 68]⟩, .string ⟨#[65, 68, 67]⟩, .string ⟨#[83, 85, 66]⟩, .string ⟨#[83, 66, 67]⟩, .string ⟨#[65, 78, 68]⟩, .string ⟨#[88, 79, 82]⟩, .string ⟨#[79, 82]⟩, .string ⟨#[67, 80]⟩] 9)).drew
  obtain ⟨f0, f1, f2, _, _, _⟩ := (H.out.blk 1 rfl).three
  go_enter Tryz.func99, Tryz.ntmps99
  go_upto_region 3 with fail
  go_region_held3 (fun w' => w'.cell? ⟨w.heap.size, 0, none⟩ = some (.int .i64 o.kind) ∧ w'.cell? ⟨w.heap.size, 1, none⟩ = some (.int .i64 o.reg) ∧ w'.cell? ⟨w.heap.size, 2, none⟩ = some (.int .i64 o.n)) (go_keep)
    (first
      | (go_at_call 106; refine (frO H (acc9_any _)).mono ?_; rintro e w' ⟨rfl, H⟩; obtain ⟨f0, f1, f2, _, _, _⟩ := (H.out.blk 1 rfl).three)
      | (go_at_call 98; refine (frL H 0 rfl (two_any _ _ _)).mono ?_; rintro e w' ⟨va, vc, rfl, HO, H⟩; obtain ⟨f0, f1, f2, _, _, _⟩ := (H.out.blk 1 rfl).three)
      | (go_at_call 97; refine (frI H (ins9_any _ _ _ _ _ HO.out)).mono ?_; rintro e w' ⟨rfl, HO, H⟩; obtain ⟨e0, e1, d0, d1⟩ := (H.out.blk 0 rfl).two; obtain ⟨f0, f1, f2, _, _, _⟩ := (H.out.blk 1 rfl).three))
  go_wp2
  obtain ⟨h1, h2⟩ := put_ins (x := .string ⟨#[83, 66, 67]⟩) (y := .slice va 2 vc) H.out.below HO.out (fun k hk => hk) (Nat.le_succ _)
  exact bodyPost_ret (ins_end rfl rfl (((H.out.blk 0 rfl).set 0 _).set 1 _)) rfl ⟨_, rfl, h1, h2⟩
set_option maxHeartbeats 2000000 in
theorem alu_4 (o : Opd) (w : World) : Calls Tryz.prog 99 #[.int .i64 4, .agg #[.int .i64 o.kind, .int .i64 o.reg, .int .i64 o.n]] w (InsP w ⟨#[65, 78, 68]⟩ [o]) := by
  have H := Lib.hid ((((Fr.start w).new 87 #[.int .i64 o.kind, .int .i64 o.reg, .int .i64 o.n]).new' 25 #[.string ⟨#[]⟩, .slice none 0 0] (b := w.heap.size + 1) (by rw [World.size_alloc])).alloc (.cells #[.string ⟨#[65, 68, 68]⟩, .string ⟨#[65, 68, 67]⟩, .string ⟨#[83, 85, 66]⟩, .string ⟨#[83, 66, 67]⟩, .string ⟨#[65, 78, 68]⟩, .string ⟨#[88, 79, 82]⟩, .string ⟨#[79, 82]⟩, .string ⟨#[67, 80]⟩] 9))
  obtain ⟨f0, f1, f2, _, _, _⟩ := (H.out.blk 1 rfl).three
  go_enter Tryz.func99, Tryz.ntmps99
  go_wp2_with (first
    | (go_at_call 101; refine (frL H 0 rfl (one_any _ _)).mono ?_; rintro e w' ⟨va, vc, rfl, HO, H⟩)
    | (go_at_call 97; refine (frI H (ins9_any _ _ _ _ _ HO.out)).mono ?_; rintro e w' ⟨rfl, HO, H⟩; obtain ⟨e0, e1, d0, d1⟩ := (H.out.blk 0 rfl).two))
  obtain ⟨h1, h2⟩ := put_ins (x := .string ⟨#[65, 78, 68]⟩) (y := .slice va 1 vc) H.out.below HO.out (fun k hk => hk) (Nat.le_succ _)
  exact bodyPost_ret (ins_end rfl rfl (((H.out.blk 0 rfl).set 0 _).set 1 _)) rfl ⟨_, rfl, h1, h2⟩
set_option maxHeartbeats 2000000 in
theorem alu_5 (o : Opd) (w : World) : Calls Tryz.prog 99 #[.int .i64 5, .agg #[.int .i64 o.kind, .int .i64 o.reg, .int .i64 o.n]] w (InsP w ⟨#[88, 79, 82]⟩ [o]) := by
  have H := Lib.hid ((((Fr.start w).new 87 #[.int .i64 o.kind, .int .i64 o.reg, .int .i64 o.n]).new' 25 #[.string ⟨#[]⟩, .slice none 0 0] (b := w.heap.size + 1) (by rw [World.size_alloc])).alloc (.cells #[.string ⟨#[65, 68, 68]⟩, .string ⟨#[65, 68, 67]⟩, .string ⟨#[83, 85, 66]⟩, .string ⟨#[83, 66, 67]⟩, .string ⟨#[65, 78, 68]⟩, .string ⟨#[88, 79, 82]⟩, .string ⟨#[79, 82]⟩, .string ⟨#[67, 80]⟩] 9))
  obtain ⟨f0, f1, f2, _, _, _⟩ := (H.out.blk 1 rfl).three
  go_enter Tryz.func99, Tryz.ntmps99
  go_wp2_with (first
    | (go_at_call 101; refine (frL H 0 rfl (one_any _ _)).mono ?_; rintro e w' ⟨va, vc, rfl, HO, H⟩)
    | (go_at_call 97; refine (frI H (ins9_any _ _ _ _ _ HO.out)).mono ?_; rintro e w' ⟨rfl, HO, H⟩; obtain ⟨e0, e1, d0, d1⟩ := (H.out.blk 0 rfl).two))
  obtain ⟨h1, h2⟩ := put_ins (x := .string ⟨#[88, 79, 82]⟩) (y := .slice va 1 vc) H.out.below HO.out (fun k hk => hk) (Nat.le_succ _)
  exact bodyPost_ret (ins_end rfl rfl (((H.out.blk 0 rfl).set 0 _).set 1 _)) rfl ⟨_, rfl, h1, h2⟩
set_option maxHeartbeats 2000000 in
theorem alu_6 (o : Opd) (w : World) : Calls Tryz.prog 99 #[.int .i64 6, .agg #[.int .i64 o.kind, .int .i64 o.reg, .int .i64 o.n]] w (InsP w ⟨#[79, 82]⟩ [o]) := by
  have H := Lib.hid ((((Fr.start w).new 87 #[.int .i64 o.kind, .int .i64 o.reg, .int .i64 o.n]).new' 25 #[.string ⟨#[]⟩, .slice none 0 0] (b := w.heap.size + 1) (by rw [World.size_alloc])).alloc (.cells #[.string ⟨#[65, 68, 68]⟩, .string ⟨#[65, 68, 67]⟩, .string ⟨#[83, 85, 66]⟩, .string ⟨#[83, 66, 67]⟩, .string ⟨#[65, 78, 68]⟩, .string ⟨#[88, 79, 82]⟩, .string ⟨#[79, 82]⟩, .string ⟨#[67, 80]⟩] 9))
  obtain ⟨f0, f1, f2, _, _, _⟩ := (H.out.blk 1 rfl).three
  go_enter Tryz.func99, Tryz.ntmps99
  go_wp2_with (first
    | (go_at_call 101; refine (frL H 0 rfl (one_any _ _)).mono ?_; rintro e w' ⟨va, vc, rfl, HO, H⟩)
    | (go_at_call 97; refine (frI H (ins9_any _ _ _ _ _ HO.out)).mono ?_; rintro e w' ⟨rfl, HO, H⟩; obtain ⟨e0, e1, d0, d1⟩ := (H.out.blk 0 rfl).two))
  obtain ⟨h1, h2⟩ := put_ins (x := .string ⟨#[79, 82]⟩) (y := .slice va 1 vc) H.out.below HO.out (fun k hk => hk) (Nat.le_succ _)
  exact bodyPost_ret (ins_end rfl rfl (((H.out.blk 0 rfl).set 0 _).set 1 _)) rfl ⟨_, rfl, h1, h2⟩
set_option maxHeartbeats 2000000 in
theorem alu_7 (o : Opd) (w : World) : Calls Tryz.prog 99 #[.int .i64 7, .agg #[.int .i64 o.kind, .int .i64 o.reg, .int .i64 o.n]] w (InsP w ⟨#[67, 80]⟩ [o]) := by
  have H := Lib.hid ((((Fr.start w).new 87 #[.int .i64 o.kind, .int .i64 o.reg, .int .i64 o.n]).new' 25 #[.string ⟨#[]⟩, .slice none 0 0] (b := w.heap.size + 1) (by rw [World.size_alloc])).alloc (.cells #[.string ⟨#[65, 68, 68]⟩, .string ⟨#[65, 68, 67]⟩, .string ⟨#[83, 85, 66]⟩, .string ⟨#[83, 66, 67]⟩, .string ⟨#[65, 78, 68]⟩, .string ⟨#[88, 79, 82]⟩, .string ⟨#[79, 82]⟩, .string ⟨#[67, 80]⟩] 9))
  obtain ⟨f0, f1, f2, _, _, _⟩ := (H.out.blk 1 rfl).three
  go_enter Tryz.func99, Tryz.ntmps99
  go_wp2_with (first
    | (go_at_call 101; refine (frL H 0 rfl (one_any _ _)).mono ?_; rintro e w' ⟨va, vc, rfl, HO, H⟩)
    | (go_at_call 97; refine (frI H (ins9_any _ _ _ _ _ HO.out)).mono ?_; rintro e w' ⟨rfl, HO, H⟩; obtain ⟨e0, e1, d0, d1⟩ := (H.out.blk 0 rfl).two))
  obtain ⟨h1, h2⟩ := put_ins (x := .string ⟨#[67, 80]⟩) (y := .slice va 1 vc) H.out.below HO.out (fun k hk => hk) (Nat.le_succ _)
  exact bodyPost_ret (ins_end rfl rfl (((H.out.blk 0 rfl).set 0 _).set 1 _)) rfl ⟨_, rfl, h1, h2⟩
end Go.Proofs.YtlepicdjnbbndaaGreatDoor
