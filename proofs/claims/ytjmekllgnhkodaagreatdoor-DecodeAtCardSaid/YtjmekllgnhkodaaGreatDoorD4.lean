/-
  What the decoder's item leaves behind; Fill in both forms. Conditions: none.
-/
import Derived.Test.YtjmekllgnhkodaaGreatDoorD3
namespace Go.Proofs.YtjmekllgnhkodaaGreatDoor
open Go.RowKit Go.Shelf Go.Sort

abbrev tItm : TypeId := 29
theorem Blk.five {w : World} {b : Nat} {t : TypeId} {x0 x1 x2 x3 x4 : Value} (h : Blk w b t #[x0, x1, x2, x3, x4]) :
    (w.cell? ⟨b, 0, none⟩ = some x0 ∧ w.cell? ⟨b, 1, none⟩ = some x1 ∧ w.cell? ⟨b, 2, none⟩ = some x2 ∧ w.cell? ⟨b, 3, none⟩ = some x3 ∧ w.cell? ⟨b, 4, none⟩ = some x4) ∧
    w.frozen? ⟨b, 0, none⟩ = false ∧ w.frozen? ⟨b, 1, none⟩ = false ∧ w.frozen? ⟨b, 2, none⟩ = false ∧ w.frozen? ⟨b, 3, none⟩ = false ∧ w.frozen? ⟨b, 4, none⟩ = false :=
  ⟨⟨h.cell 0, h.cell 1, h.cell 2, h.cell 3, h.cell 4⟩, h.free 0, h.free 1, h.free 2, h.free 3, h.free 4⟩
theorem Fr.swap {w0 W : World} {a b : Nat × TypeId × Array Value} {L : List (Nat × TypeId × Array Value)} (h : Fr w0 (a :: b :: L) W) : Fr w0 (b :: a :: L) W :=
  h.sub (fun x hx => by
    rcases List.mem_cons.1 hx with e | hx
    · rw [e]; simp
    · rcases List.mem_cons.1 hx with e | hx
      · rw [e]; simp
      · simp [hx])
theorem Fr.grow {w0 W W' : World} {g : Nat} {t : TypeId} {cs cs' : Array Value} {L : List (Nat × TypeId × Array Value)} (h : Fr w0 ((g, t, cs) :: L) W) (hg : W.grownBy W' (some g)) (hb : Blk W' g t cs') (hz : w0.heap.size ≤ g) (hn : ∀ x ∈ L, x.1 ≠ g) : Fr w0 ((g, t, cs') :: L) W' :=
  ⟨h.below.grown hg h.below.size (fun k e => by cases e; exact hz), fun x hx => by
    rcases List.mem_cons.1 hx with rfl | hx
    · exact hb
    · exact (h.drop.at' x hx).grown hg (fun e => hn x hx (Option.some.inj e))⟩
/-- an item's row -/
def itmV (x : Itm) (m : Nat) (ra : Option Addr) (rc : Nat) (va : Option Addr) (vc : Nat) : Value := .agg #[.int .i64 x.k, .slice ra m rc, .string ⟨x.op.toArray⟩, .slice va x.args.length vc, .bool x.al]
/-- an item in memory: its row, its bytes, its operands -/
def ItmR (w : World) (B : Nat) (x : Itm) (l : List UInt8) (v : Value) : Prop :=
  ∃ ra rc va vc, v = itmV x (l.take x.n).length ra rc va vc ∧ SlR byteR w (fun b => B ≤ b) (.slice ra (l.take x.n).length rc) (l.take x.n) ∧ SlR opdR w (fun b => B ≤ b) (.slice va x.args.length vc) x.args
theorem ItmR.next {w w' : World} {B : Nat} {x : Itm} {l : List UInt8} {v : Value} (h : ItmR w B x l v) (hb : RowKit.Below w.heap.size w w') : ItmR w' B x l v := by
  obtain ⟨ra, rc, va, vc, e, h1, h2⟩ := h
  exact ⟨ra, rc, va, vc, e, h1.below hb, h2.below hb⟩
theorem ItmR.base {w : World} {B B' : Nat} {x : Itm} {l : List UInt8} {v : Value} (h : ItmR w B x l v) (hB : B' ≤ B) : ItmR w B' x l v := by
  obtain ⟨ra, rc, va, vc, e, h1, h2⟩ := h
  exact ⟨ra, rc, va, vc, e, h1.mono (fun k hk => Nat.le_trans hB hk), h2.mono (fun k hk => Nat.le_trans hB hk)⟩
/-- what First hands back -/
def FirstP (w : World) (x : Itm) (l : List UInt8) (e : Ending) (w' : World) : Prop := (∃ v, e = .returned v ∧ ItmR w' w.heap.size x l v) ∧ RowKit.Below w.heap.size w w'
theorem firstP {w w' : World} {x : Itm} {l : List UInt8} {ra va : Option Addr} {rc vc : Nat} {v : Value} (hv : v = itmV x (l.take x.n).length ra rc va vc) (h1 : SlR byteR w' (fun b => w.heap.size ≤ b) (.slice ra (l.take x.n).length rc) (l.take x.n)) (h2 : SlR opdR w' (fun b => w.heap.size ≤ b) (.slice va x.args.length vc) x.args) (hb : RowKit.Below w.heap.size w w') : FirstP w x l (.returned v) w' :=
  ⟨⟨v, rfl, ra, rc, va, vc, hv, h1, h2⟩, hb⟩
/-- what is known of an item that is cut off -/
def NeedS (w : World) (g : Nat) (vb : Value) (l : List UInt8) : Prop :=
  ∃ (xe : EntV) (va qa : Option Addr) (vn vc qc k : Nat) (d n : Int), Blk w g tDec (dcC vb (.slice qa (prefF (pgB l)).length qc) xe.pg xe.op ⟨xe.iop.toArray⟩ (.slice va vn vc) ⟨xe.ex.toArray⟩ xe.al k d n) ∧
    ((xe.iop = [] ∧ l.length ≤ pos (pgB l)) ∨ (pos (pgB l) < l.length ∧ (atF (pgB l) (bAt l (pos (pgB l)))).1 = some xe))
def IteP (wz : World) (g : Nat) (vb : Value) (l : List UInt8) (e : Ending) (w' : World) : Prop :=
  RowKit.Below wz.heap.size wz w' ∧ (if (itF l).k = 4 then e = .panicked missP ∧ NeedS w' g vb l
    else (∃ cs, Blk w' g tDec cs ∧ cs[0]? = some vb) ∧ ∃ v, e = .returned v ∧ ItmR w' wz.heap.size (itF l) l v)
theorem IteP.cut {wz w' : World} {g : Nat} {vb : Value} {l : List UInt8} (h : (itF l).k = 4) (hb : RowKit.Below wz.heap.size wz w') (hn : NeedS w' g vb l) : IteP wz g vb l (.panicked missP) w' := ⟨hb, by rw [if_pos h]; exact ⟨rfl, hn⟩⟩
theorem IteP.ret {wz w' : World} {g : Nat} {vb : Value} {l : List UInt8} {cs : Array Value} {x : Itm} {v : Value} (hx : itF l = x) (h : ¬ x.k = 4) (hb : RowKit.Below wz.heap.size wz w') (hk : Blk w' g tDec cs) (h0 : cs[0]? = some vb) (hi : ItmR w' wz.heap.size x l v) : IteP wz g vb l (.returned v) w' := by
  subst hx
  exact ⟨hb, by rw [if_neg h]; exact ⟨⟨cs, hk, h0⟩, v, rfl, hi⟩⟩
/-- what Fill hands back -/
def InsQP (w : World) (s : List UInt8) (l : List Opd) (e : Ending) (w' : World) : Prop :=
  ∃ a c b, e = .returned (.tuple #[.agg #[.string ⟨s.toArray⟩, .slice a l.length c], .bool b]) ∧ SlR opdR w' (fun b => w.heap.size ≤ b) (.slice a l.length c) l ∧ RowKit.Below w.heap.size w w'
theorem FillI_any (x : EntV) (hok : EntOk x) (d n : Int) (p : Blocks) (v : Value) (w : World) (h : SlR opdR w p v x.args) :
    Calls Tryz.prog 72 #[entVal x v, .int .i64 d, .int .i64 n] w (InsQP w (insF x d n).1 (insF x d n).2) := by
  have hz := hok.size
  refine (FillS_any x.pg x.op d n ⟨x.iop.toArray⟩ ⟨x.ex.toArray⟩ x.al x.args p v w h (by have := hz.2; omega) (by have := hz.1; omega)).mono ?_
  rintro e w' ⟨h1, h2⟩
  rw [show (⟨x.ex.toArray⟩ : ByteArray).data.toList = x.ex from rfl, hok.up, fill_eq hok.var] at h1
  unfold insF
  cases hF : fillF x.ex x.args d n with
  | none => rw [hF] at h1; exact ⟨none, 0, false, h1, SlR.nil _ _ _, h2⟩
  | some c =>
    rw [hF] at h1
    obtain ⟨v', rfl, ho⟩ := h1
    obtain ⟨a, cc, rfl⟩ := ho.form
    exact ⟨a, cc, true, rfl, ho.slR, h2⟩
theorem Fill10I_any (x : EntV) (hok : EntOk x) (hx : EntW x) (d n : Int) (p : Blocks) (v : Value) (w : World) (h : SlR opdR w p v x.args) :
    Calls Tryz.prog 54 #[entVal x v, .int .i64 d, .int .i64 n] w (InsQP w (insF x d n).1 (insF x d n).2) := by
  have hz := hok.size
  refine (Fill10_any x.pg x.op d n ⟨x.iop.toArray⟩ ⟨x.ex.toArray⟩ x.al x.args p v w h (by have := hz.2; omega) (by have := hx.len; show x.ex.toArray.size ≤ _; rw [List.size_toArray]; omega)).mono ?_
  rintro e w' ⟨h1, h2⟩
  rw [show (⟨x.ex.toArray⟩ : ByteArray).data.toList = x.ex from rfl] at h1
  unfold insF
  cases hF : fillF x.ex x.args d n with
  | none => rw [hF] at h1; exact ⟨none, 0, false, h1, SlR.nil _ _ _, h2⟩
  | some c =>
    rw [hF] at h1
    obtain ⟨v', rfl, ho⟩ := h1
    obtain ⟨a, cc, rfl⟩ := ho.form
    exact ⟨a, cc, true, rfl, Own.slR ho (fun _ h => h.elim) (fun _ h => h), h2⟩
end Go.Proofs.YtjmekllgnhkodaaGreatDoor
