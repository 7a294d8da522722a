/-
  The next letter of a string, as a run; what is known of every entry. Conditions: none.
-/
import Derived.Test.YtjmekllgnhkodaaGreatDoorPO
import Derived.Test.YtjmekllgnhkodaaGreatDoorPF
import Derived.MapKept
import Derived.Laws.RangeString
import Derived.RangeFuncRecord
namespace Go.Proofs.YtjmekllgnhkodaaGreatDoor
open Go.RowKit Go.Shelf Go.Sort

theorem below_put {W : World} {B b : Nat} (o : Obj) (hb : B ≤ b) : Below B W (W.putObj b o) :=
  ⟨rfl, rfl, rfl, by rw [World.putObj_size]; exact Nat.le_refl _, fun k hk => World.putObj_heap_other (by omega)⟩
/-- the next letter of a string -/
theorem run_next_at {W : World} {b : Nat} {s : ByteArray} {pos : Nat} (ty : TypeId) (hb : W.heap[b]? = some (.stringIter s pos)) (h : pos < s.size) (ha : (s[pos]'h).toNat < 128) :
    (Instr.next (.pointer (some ⟨b, 0, none⟩)) true ty).run Tryz.prog W = .ok (.tuple #[.bool true, .int .i64 pos, .int .i32 (s[pos]'h).toNat]) (W.putObj b (.stringIter s (pos + 1))) := by
  simp only [Instr.next, getObj, setObj, Sem.run_bind, Sem.run, hb, Result.andThen, h, if_true, decode_ascii s pos h ha]
  simp [goInt, World.putObj]
theorem run_next_stop {W : World} {b : Nat} {s : ByteArray} {pos : Nat} (ty : TypeId) (hb : W.heap[b]? = some (.stringIter s pos)) (h : ¬ pos < s.size) :
    (Instr.next (.pointer (some ⟨b, 0, none⟩)) true ty).run Tryz.prog W = .ok (.tuple #[.bool false]) W := by
  simp [Instr.next, getObj, Sem.run, hb, h]
theorem Blk.cellAt {w : World} {b : Nat} {t : TypeId} {cs : Array Value} (h : Blk w b t cs) {i : Nat} {v : Value} (hv : cs[i]? = some v) : w.cell? ⟨b, i, none⟩ = some v := by
  exact (h.cell i).trans hv
def okLet (b : UInt8) : Prop := b = 100 ∨ b = 101 ∨ b = 110 ∨ b = 119
def iterLeft (w : World) (b : Nat) : Nat := match w.heap[b]? with | some (.stringIter s k) => s.size - k | _ => 0
theorem iterLeft_eq {w : World} {b k : Nat} {s : ByteArray} (h : w.heap[b]? = some (.stringIter s k)) : iterLeft w b = s.size - k := by unfold iterLeft; rw [h]
theorem prefF_len9 (p : Int) : (prefF p).length ≤ 2 := by
  unfold prefF
  repeat' split
  all_goals simp
theorem opsL_size : ∀ s ∈ opsL, s.size ≤ 10 := by
  have h : opsL.all (fun s => decide (s.size ≤ 10)) = true := by decide +kernel
  intro s hs
  exact of_decide_eq_true (List.all_eq_true.1 h s hs)
theorem EntOk.size {x : EntV} (h : EntOk x) : (⟨x.iop.toArray⟩ : ByteArray).size ≤ 10 ∧ x.args.length ≤ 3 := by
  have hl := h.l
  unfold chkL at hl
  obtain ⟨h1, hl⟩ := Bool.and_eq_true_iff.1 hl
  exact ⟨opsL_size _ (inL_iff.1 h1), of_decide_eq_true (Bool.and_eq_true_iff.1 hl).1⟩
def chkW (p : Int) (x : Nat) : Bool := match (atF p x).1 with
  | some e => (e.pg == p) && (decide (e.op = x) && (e.ex.all (fun b => b == 100 || (b == 101 || (b == 110 || b == 119))) && (decide (e.ex.length ≤ 10) && (decide (p < 5) || e.ex == [100]))))
  | none => true
theorem ckw : ∀ p : Fin 7, ∀ x : Fin 256, chkW p.val x.val = true := by decide +kernel
/-- what the writer asks of an entry -/
structure EntW (x : EntV) : Prop where
  op : x.op < 256
  lets : ∀ b ∈ x.ex, okLet b
  hi : 5 ≤ x.pg → x.ex = [100]
  len : x.ex.length ≤ 10
theorem entW_at {p x : Nat} (hp : p < 7) (hx : x < 256) {e : EntV} (he : (atF p x).1 = some e) : EntW e ∧ e.pg = p ∧ e.op = x := by
  have h := ckw ⟨p, hp⟩ ⟨x, hx⟩
  unfold chkW at h
  dsimp only at h
  rw [he] at h
  obtain ⟨h1, h⟩ := Bool.and_eq_true_iff.1 h
  obtain ⟨h2, h⟩ := Bool.and_eq_true_iff.1 h
  obtain ⟨h3, h⟩ := Bool.and_eq_true_iff.1 h
  obtain ⟨h4, h5⟩ := Bool.and_eq_true_iff.1 h
  have h1 := eq_of_beq h1
  have h2 := of_decide_eq_true h2
  refine ⟨⟨by omega, fun b hb => ?_, fun h6 => ?_, of_decide_eq_true h4⟩, h1, h2⟩
  · have := List.all_eq_true.1 h3 b hb
    rcases Bool.or_eq_true_iff.1 this with e | e
    · exact .inl (eq_of_beq e)
    · rcases Bool.or_eq_true_iff.1 e with e | e
      · exact .inr (.inl (eq_of_beq e))
      · rcases Bool.or_eq_true_iff.1 e with e | e
        · exact .inr (.inr (.inl (eq_of_beq e)))
        · exact .inr (.inr (.inr (eq_of_beq e)))
  · rcases Bool.or_eq_true_iff.1 h5 with e | e
    · have := of_decide_eq_true e; omega
    · exact eq_of_beq e
end Go.Proofs.YtjmekllgnhkodaaGreatDoor
