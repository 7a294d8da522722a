/-
  record.Split. Conditions: the size and the address in their ranges.
-/
import Derived.Test.YtcfjcoockklkeaaDoorR2
import Derived.Test.YtcfjcoockklkeaaDoorP4f
import Derived.Shelf.RegionOpen
namespace Go.Proofs.YtcfjcoockklkeaaDoor
open Go.RowKit
attribute [local go_sem] Oper.semAt_some

def recR : Rep (Nat × List UInt8) := Rep.pair (Rep.flat 2 (fun a : Nat => [.int .i64 0, .int .i64 a]) (fun _ => rfl) (fun _ u hu => by simp at hu; rcases hu with rfl | rfl <;> rfl)) (Rep.slice byteR)
theorem recR_size : recR.size = 3 := rfl
theorem elRec : ElT Tryd.prog 173 46 recR.size 40 := ElT.mk' (z := .agg #[.int .i64 0, .int .i64 0, .slice none 0 0]) Tryd.underlying173 (by kernel_rfl) rfl (by decide)
/-- slices.Chunk: two variables and a function -/
theorem Chunk_any (sa : Option Addr) (ln cp : Nat) (n : Nat) (w : World) (hn : 1 ≤ n) :
    Calls Tryd.prog 143 #[.slice sa ln cp, .int .i64 n] w fun e w' => e = .returned (.func (.func 156) #[] #[.pointer (some ⟨w.heap.size, 0, none⟩), .pointer (some ⟨w.heap.size + 1, 0, none⟩)]) ∧ w' = (w.alloc (.cells #[.slice sa ln cp] 44)).alloc (.cells #[.int .i64 n] 3) := by
  have hmf : ∀ (fn : Fn) (first cap : Array Value) (w : World), (Instr.makeFunc fn first cap).run Tryd.prog w = .ok (.func fn first cap) w := fun _ _ _ _ => rfl
  have h1 : decide ((n : Int) < 1) = false := by simp; omega
  go_enter Tryd.func143, Tryd.ntmps143
  go_wp2
  go_ret
  exact ⟨rfl, rfl⟩
/-- the world in which Split's loop begins -/
def splitW (w : World) (a n : Nat) (sv : Value) : World :=
  (((((w.alloc (.cells #[.int .i64 a] 3)).alloc (.cells #[.int .i64 n] 3)).alloc (.cells #[.int .i64 a] 3)).alloc (.cells #[.slice none 0 0] 173)).alloc (.cells #[sv] 44)).alloc (.cells #[.int .i64 n] 3)
theorem split_start (w : World) (a n : Nat) (sv : Value) : Blk (splitW w a n sv) w.heap.size 3 #[.int .i64 a] ∧ Blk (splitW w a n sv) (w.heap.size + 1 + 1 + 1) 173 #[.slice none 0 0] ∧
    Blk (splitW w a n sv) (w.heap.size + 1 + 1 + 1 + 1) 44 #[sv] ∧ Blk (splitW w a n sv) (w.heap.size + 1 + 1 + 1 + 1 + 1) 3 #[.int .i64 n] ∧ Below w.heap.size w (splitW w a n sv) := by
  unfold splitW
  refine ⟨(((((Blk.new _ _ _).alloc _).alloc _).alloc _).alloc _).alloc _, ?_, ?_, ?_, ((((((Below.refl _ w).alloc (Nat.le_refl _) _).alloc (by simp) _).alloc (by simp; omega) _).alloc (by simp; omega) _).alloc (by simp; omega) _).alloc (by simp; omega) _⟩
  · have := ((Blk.new (((w.alloc (.cells #[.int .i64 a] 3)).alloc (.cells #[.int .i64 n] 3)).alloc (.cells #[.int .i64 a] 3)) 173 #[.slice none 0 0]).alloc (.cells #[sv] 44)).alloc (.cells #[.int .i64 n] 3)
    simpa using this
  · have := (Blk.new ((((w.alloc (.cells #[.int .i64 a] 3)).alloc (.cells #[.int .i64 n] 3)).alloc (.cells #[.int .i64 a] 3)).alloc (.cells #[.slice none 0 0] 173)) 44 #[sv]).alloc (.cells #[.int .i64 n] 3)
    simpa using this
  · have := Blk.new (((((w.alloc (.cells #[.int .i64 a] 3)).alloc (.cells #[.int .i64 n] 3)).alloc (.cells #[.int .i64 a] 3)).alloc (.cells #[.slice none 0 0] 173)).alloc (.cells #[sv] 44)) 3 #[.int .i64 n]
    simpa using this
/-- What stands between two rounds of Split. -/
structure SpI (w0 : World) (bA bO bS bN : Nat) (n a : Nat) (l : List UInt8) (pre : List Nat) (w : World) : Prop where
  out : ∃ ov, Blk w bO 173 #[ov] ∧ OwnL recR w w0.heap.size 46 ov ((splitL n a l).take pre.length)
  adr : Blk w bA 3 #[.int .i64 (a + min (pre.length * n) l.length : Nat)]
  capS : TyB w [44] bS
  capN : TyB w [3] bN
  below : Below w0.heap.size w0 w
theorem Blk.own {w w' : World} {g B : Nat} {t : TypeId} {cs : Array Value} {row : Option Nat} (h : Blk w g t cs) (hg : w.grownBy w' row) (hr : ∀ r, row = some r → B ≤ r ∧ ∃ o : Obj, w.heap[r]? = some o ∧ o.isCells = false) : Blk w' g t cs :=
  h.grown hg (fun e => by
    obtain ⟨_, o, ho, hc⟩ := hr g e.symm
    have h : w.heap[g]? = some (.cells cs t (0, 0)) := h
    rw [h] at ho
    injection ho with ho
    subst ho
    cases hc)
theorem OwnL.own {α : Type} {R : Rep α} {w w' : World} {B B' : Nat} {e : TypeId} {v : Value} {xs : List α} {row : Option Nat} (h : OwnL R w B e v xs) (hg : w.grownBy w' row) (hr : ∀ r, row = some r → B' ≤ r ∧ ∃ o : Obj, w.heap[r]? = some o ∧ o.isCells = false) : OwnL R w' B e v xs :=
  h.keepT fun k _ ⟨cs, t, _, hk⟩ => hg.block k (Array.getElem?_eq_some_iff.1 hk).1 (fun e => by
    obtain ⟨_, o, ho, hc⟩ := hr k e.symm
    rw [hk] at ho
    injection ho with ho
    subst ho
    cases hc)
theorem TyB.own {w w' : World} {ts : List TypeId} {k B : Nat} {row : Option Nat} (h : TyB w ts k) (hg : w.grownBy w' row) (hr : ∀ r, row = some r → B ≤ r ∧ ∃ o : Obj, w.heap[r]? = some o ∧ o.isCells = false) : TyB w' ts k := by
  obtain ⟨cs, t, ht, hk⟩ := h
  exact ⟨cs, t, ht, (show Blk w' k t cs from (show Blk w k t cs from hk).own hg hr)⟩
theorem SpI.own {w0 : World} {bA bO bS bN n a B : Nat} {l : List UInt8} (hB : w0.heap.size ≤ B) : OwnFrom B (SpI w0 bA bO bS bN n a l) := fun pre A C row h hg hr => by
  obtain ⟨⟨ov, h1, h2⟩, h3, h5, h6, h4⟩ := h
  exact ⟨⟨ov, h1.own hg hr, h2.own hg hr⟩, h3.own hg hr, h5.own hg hr, h6.own hg hr, h4.grown hg h4.size (fun k hk => by have := (hr k hk).1; omega)⟩
theorem part_slR {w : World} {p : Blocks} {b o n x c : Nat} {l : List UInt8} (h : SlR byteR w p (.slice (some ⟨b, o, none⟩) l.length c) l) (hc : c ≤ 9223372036854775807) : SlR byteR w p (.slice (some ⟨b, o + x, none⟩) (min n (l.length - x)) (min n (l.length - x))) ((l.drop x).take n) := by
  have hlen : ((l.drop x).take n).length = min n (l.length - x) := by simp
  obtain ⟨a', c', e, h1, h2, h3⟩ := h
  injection e with e1 e2 e3
  subst e1 e3
  refine ⟨_, _, by rw [hlen], by rw [hlen]; exact Nat.le_refl _, by unfold maxLen at *; omega, fun i y hy => ?_⟩
  have hi : i < min n (l.length - x) := by rw [← hlen]; exact (List.getElem?_eq_some_iff.1 hy).1
  have hy2 : l[x + i]? = some y := by
    rw [List.getElem?_take, if_pos (by omega), List.getElem?_drop] at hy
    exact hy
  obtain ⟨b', o', cs, e, hp, hlt, hcs, hr⟩ := h3 (x + i) y hy2
  injection e with e
  injection e with e4 e5
  subst e4 e5
  refine ⟨_, _, cs, rfl, hp, hlt, ?_, hr⟩
  rw [byteR_size] at hcs ⊢
  rw [show o + x + i * 1 = o + (x + i) * 1 by omega]
  exact hcs
theorem stepIn_run {F : Fence} {n : Nat} {P : Program} {ops : Array Oper} {o : Oper} {a : Act} {K : Act → World → Prop} {Q : Exit → Act → World → Prop} {E : Prop} {w : World} (hgd : o.guard = none) (s x : Operand) (t : TypeId)
    (ho : o.op = .call { callee := .builtin .append, args := #[s, x], argTypes := #[t, t] }) (v' : Value) (w' : World) (hrun : (Builtin.append_ #[t, t] o.type #[a.eval s, a.eval x]).run P w = .ok v' w') (h : K (a.put o.dst v') w') :
    if Region.wanted o (yielded ops a.tmps) = true then Oper.wpIn F n P o a w K Q else E := by
  have hw : Region.wanted o (yielded ops a.tmps) = true := by simp [Region.wanted, hgd]
  rw [if_pos hw]
  unfold Oper.wpIn
  refine ⟨?_, ?_⟩
  · simp [Oper.about, ho, resolve, Target.leads, Sem.run_pure]
  · rw [Oper.semAt_plain F _ _ (by rw [ho]; intro c hc'; cases hc')]
    simp [execOp, ho, resolve, invoke, builtin, hrun, Result.andThen]
    exact h
/-- the append of one record -/
theorem split_app {w0 W w2 : World} {bO bA : Nat} {ov v2 : Value} {xs : List (Nat × List UInt8)} {part : List UInt8} {cA : Value} (hko : Blk W bO 173 #[ov]) (hka : Blk W bA 3 #[cA]) (hov : OwnL recR W w0.heap.size 46 ov xs) (hbw : Below w0.heap.size w0 W) (hxl : xs.length ≤ 65536)
    (ho : Own byteR w2 W.drew.heap.size 5 NoB v2 part) (hb : Below W.drew.heap.size W.drew w2) (A : Nat) :
    ∃ a5 c5 w3, (Builtin.append_ #[173, 173] 173 #[ov, .slice (some ⟨w2.heap.size, 0, none⟩) 1 1]).run Tryd.prog (w2.alloc (.cells #[.int .i64 0, .int .i64 A, v2] 46)) = .ok (.slice a5 (xs.length + 1) c5) w3 ∧
      OwnL recR w3 w0.heap.size 46 (.slice a5 (xs.length + 1) c5) (xs ++ [(A, part)]) ∧ Blk w3 bO 173 #[ov] ∧ Blk w3 bA 3 #[cA] ∧ Below w0.heap.size w0 w3 ∧ W.heap.size ≤ w3.heap.size ∧ ∀ k o, W.heap[k]? = some o → ov.ownBlock ≠ some k → w3.heap[k]? = some o := by
  have hov1 : OwnL recR W.drew w0.heap.size 46 ov xs := hov.keep (Keep.drew _)
  have hov2 := hov1.stay hb
  have hB : w0.heap.size ≤ w2.heap.size := Nat.le_trans hbw.size hb.size
  obtain ⟨a5, c5, w3, hrun, hp, hg⟩ := hov2.pushed (P := Tryd.prog) (ty := 173) (x := (A, part)) (q := fun k => v2.ownBlock = some k) elRec #[.int .i64 0, .int .i64 A, v2] ⟨[.int .i64 0, .int .i64 A], [v2], rfl, rfl, ⟨_, rfl, ho.slO (fun _ h => h.elim) (fun _ h => h)⟩⟩
    (fun k hk => ⟨Nat.le_trans hbw.size (ho.lt k hk).1, fun e => absurd (hov.lt k e).2 (Nat.not_lt.2 (ho.lt k hk).1), ho.rowT hk⟩) (by omega) (by omega) hB
  have hty : ∀ k, ov.ownBlock = some k → ∃ cs, W.heap[k]? = some (.cells cs 46 (0, 0)) := fun k hk => by
    obtain ⟨p, ho, _⟩ := hov
    exact ho.rowT hk
  have hsame : ∀ k o, W.heap[k]? = some o → ov.ownBlock ≠ some k → w3.heap[k]? = some o := fun k o hk hne => by
    have hlt : k < W.heap.size := (Array.getElem?_eq_some_iff.1 hk).1
    exact (hg.block k (Nat.lt_of_lt_of_le hlt hb.size) (fun e => hne e.symm)).trans ((hb.block k hlt).trans hk)
  have hbo : ∀ {b : Nat} {t : TypeId} {cs : Array Value}, Blk W b t cs → t ≠ 46 → Blk w3 b t cs := fun {b t cs} hk ht => hsame _ _ hk (fun e => by
    obtain ⟨cs2, h2⟩ := hty b e
    have hk : W.heap[b]? = some (.cells cs t (0, 0)) := hk
    rw [hk] at h2
    injection h2 with h2
    injection h2 with _ h2
    exact ht h2)
  refine ⟨a5, c5, w3, hrun, hp, hbo hko (by decide), hbo hka (by decide), ?_, Nat.le_trans hb.size hg.size, hsame⟩
  exact (hbw.trans ((Below.trans (Below.refl _ _).drew hb).mono hbw.size)).grown hg hB (fun k hk => (hov.lt k hk).1)
theorem OwnL.rowT {α : Type} {R : Rep α} {w : World} {B : Nat} {e : TypeId} {v : Value} {xs : List α} (h : OwnL R w B e v xs) {k : Nat} (hk : v.ownBlock = some k) : ∃ cs, w.heap[k]? = some (.cells cs e (0, 0)) := by
  obtain ⟨p, ho, _⟩ := h
  exact ho.rowT hk
/-- behind the two stores of a round -/
theorem split_next {w0 W w3 : World} {bA bO bS bN n a x q : Nat} {l part : List UInt8} {pre : List Nat} {ov v5 : Value} (hI : SpI w0 bA bO bS bN n a l pre W) (hx1 : x = pre.length * n) (hx2 : x < l.length) (hn : 1 ≤ n) (hq : q = min n (l.length - x)) (hpart : part = (l.drop x).take n)
    (hov : OwnL recR W w0.heap.size 46 ov ((splitL n a l).take pre.length)) (hne : bA ≠ bO) (hneN : bA ≠ bN) (hB1 : w0.heap.size ≤ bA) (hB2 : w0.heap.size ≤ bO)
    (ho3 : OwnL recR w3 w0.heap.size 46 v5 ((splitL n a l).take pre.length ++ [(a + x, part)])) (hk3 : Blk w3 bO 173 #[ov]) (hk4 : Blk w3 bA 3 #[.int .i64 (a + x : Nat)])
    (hb3 : Below w0.heap.size w0 w3) (hsz : W.heap.size ≤ w3.heap.size) (hsame : ∀ k o, W.heap[k]? = some o → ov.ownBlock ≠ some k → w3.heap[k]? = some o) (B : Nat) :
    Recs B W ((w3.setCell ⟨bO, 0, none⟩ v5).setCell ⟨bA, 0, none⟩ (.int .i64 ((a + x : Nat) + (q : Int)))) ∧ Tk (fun k _ => k = bS ∨ k = bN) W ((w3.setCell ⟨bO, 0, none⟩ v5).setCell ⟨bA, 0, none⟩ (.int .i64 ((a + x : Nat) + (q : Int)))) ∧
      SpI w0 bA bO bS bN n a l (pre ++ [x]) ((w3.setCell ⟨bO, 0, none⟩ v5).setCell ⟨bA, 0, none⟩ (.int .i64 ((a + x : Nat) + (q : Int)))) := by
  have hty : ∀ {b : Nat} {t : TypeId} {cs : Array Value}, W.heap[b]? = some (.cells cs t (0, 0)) → t ≠ 46 → ov.ownBlock ≠ some b := fun {b t cs} hk ht e => by
    obtain ⟨cs2, h2⟩ := hov.rowT e
    rw [hk] at h2
    injection h2 with h2
    injection h2 with _ h2
    exact ht h2
  have hset : ∀ k o, w3.heap[k]? = some o → k ≠ bO → k ≠ bA → ((w3.setCell ⟨bO, 0, none⟩ v5).setCell ⟨bA, 0, none⟩ (.int .i64 ((a + x : Nat) + (q : Int)))).heap[k]? = some o := fun k o hk h1 h2 =>
    ((Below.heap_setCell _ _ _ _ h2).trans (Below.heap_setCell _ _ _ _ h1)).trans hk
  have hkO : Blk ((w3.setCell ⟨bO, 0, none⟩ v5).setCell ⟨bA, 0, none⟩ (.int .i64 ((a + x : Nat) + (q : Int)))) bO 173 #[v5] := (hk3.set 0 v5).far (p := ⟨bA, 0, none⟩) (fun e => hne e.symm) _
  have hkA : Blk ((w3.setCell ⟨bO, 0, none⟩ v5).setCell ⟨bA, 0, none⟩ (.int .i64 ((a + x : Nat) + (q : Int)))) bA 3 #[.int .i64 ((a + x : Nat) + (q : Int))] := (hk4.far (p := ⟨bO, 0, none⟩) hne _).set 0 _
  have hne3 : ∀ {k : Nat} {cs : Array Value} {t : TypeId}, w3.heap[k]? = some (.cells cs t (0, 0)) → t ≠ 173 → k ≠ bO := fun {k cs t} hk ht e => by
    subst e
    have h2 : w3.heap[k]? = some (.cells #[ov] 173 (0, 0)) := hk3
    rw [hk] at h2
    injection h2 with h2
    injection h2 with _ h2
    exact ht h2
  have hne4 : ∀ {k : Nat} {cs : Array Value} {t : TypeId}, w3.heap[k]? = some (.cells cs t (0, 0)) → t ≠ 3 → k ≠ bA := fun {k cs t} hk ht e => by
    subst e
    have h2 : w3.heap[k]? = some (.cells #[.int .i64 (a + x : Nat)] 3 (0, 0)) := hk4
    rw [hk] at h2
    injection h2 with h2
    injection h2 with _ h2
    exact ht h2
  have hcapS : ∀ cs, W.heap[bS]? = some (.cells cs 44 (0, 0)) → ((w3.setCell ⟨bO, 0, none⟩ v5).setCell ⟨bA, 0, none⟩ (.int .i64 ((a + x : Nat) + (q : Int)))).heap[bS]? = some (.cells cs 44 (0, 0)) := fun cs hk => by
    have h3 := hsame _ _ hk (hty hk (by decide))
    exact hset _ _ h3 (hne3 h3 (by decide)) (hne4 h3 (by decide))
  have hcapN : ∀ cs, W.heap[bN]? = some (.cells cs 3 (0, 0)) → ((w3.setCell ⟨bO, 0, none⟩ v5).setCell ⟨bA, 0, none⟩ (.int .i64 ((a + x : Nat) + (q : Int)))).heap[bN]? = some (.cells cs 3 (0, 0)) := fun cs hk => by
    have h3 := hsame _ _ hk (hty hk (by decide))
    exact hset _ _ h3 (hne3 h3 (by decide)) (fun e => hneN e.symm)
  obtain ⟨csS, tS, htS, hS⟩ := hI.capS
  obtain ⟨csN, tN, htN, hN⟩ := hI.capN
  simp at htS htN
  subst htS htN
  refine ⟨⟨?_, fun k o _ hk hc => ?_⟩, fun k o hk1 hk2 _ => ?_, ?_⟩
  · have : ((w3.setCell ⟨bO, 0, none⟩ v5).setCell ⟨bA, 0, none⟩ (.int .i64 ((a + x : Nat) + (q : Int)))).heap.size = w3.heap.size := by simp [World.setCell]
    rw [this]; exact hsz
  · have hnr : ov.ownBlock ≠ some k := fun e => by
      obtain ⟨cs2, h2⟩ := hov.rowT e
      rw [hk] at h2
      injection h2 with h2
      subst h2
      cases hc
    have h3 := hsame k o hk hnr
    refine hset k o h3 (fun e => ?_) (fun e => ?_)
    · subst e
      have h2 : w3.heap[k]? = some (.cells #[ov] 173 (0, 0)) := hk3
      rw [h3] at h2; injection h2 with h2; subst h2; cases hc
    · subst e
      have h2 : w3.heap[k]? = some (.cells #[.int .i64 (a + x : Nat)] 3 (0, 0)) := hk4
      rw [h3] at h2; injection h2 with h2; subst h2; cases hc
  · rcases hk1 with rfl | rfl
    · rw [hS] at hk2
      injection hk2 with hk2
      subst hk2
      exact hcapS _ hS
    · rw [hN] at hk2
      injection hk2 with hk2
      subst hk2
      exact hcapN _ hN
  · have hlen : (pre ++ [x]).length = pre.length + 1 := by simp
    refine ⟨⟨v5, hkO, ?_⟩, ?_, ⟨csS, _, by simp, hcapS _ hS⟩, ⟨csN, _, by simp, hcapN _ hN⟩, (hb3.setCell (p := ⟨bO, 0, none⟩) hB2 _).setCell (p := ⟨bA, 0, none⟩) hB1 _⟩
    · rw [hlen, splitL_more (by omega) (by rw [← hx1]; exact hx2), ← hx1, ← hpart]
      exact ho3.keepT (fun k _ ⟨cs, t, ht, hk⟩ => by
        have h1 : t ≠ 173 := by simp at ht; rcases ht with rfl | rfl <;> decide
        have h2 : t ≠ 3 := by simp at ht; rcases ht with rfl | rfl <;> decide
        exact (hset _ _ hk (hne3 hk h1) (hne4 hk h2)).trans hk.symm)
    · have e : ((a + min ((pre ++ [x]).length * n) l.length : Nat) : Int) = ((a + x : Nat) : Int) + (q : Int) := by
        rw [hlen, Nat.succ_mul, ← hx1, hq]
        omega
      rw [e]
      exact hkA
theorem bcell {W w1 : World} (hb : Below W.drew.heap.size W.drew w1) : (∀ b o, b < W.heap.size → w1.cell? ⟨b, o, none⟩ = W.cell? ⟨b, o, none⟩) ∧ (∀ b o, b < W.heap.size → w1.frozen? ⟨b, o, none⟩ = W.frozen? ⟨b, o, none⟩) :=
  ⟨fun b o h => hb.cell (p := ⟨b, o, none⟩) h, fun b o h => hb.frozen (p := ⟨b, o, none⟩) h⟩
theorem split_next' {w0 W w3 : World} {bA bO bS bN n a x q A : Nat} {l part : List UInt8} {pre : List Nat} {ov v5 : Value} {xs : List (Nat × List UInt8)} (hxs : (splitL n a l).take pre.length = xs) (hA : a + x = A) (hI : SpI w0 bA bO bS bN n a l pre W) (hx1 : x = pre.length * n) (hx2 : x < l.length) (hn : 1 ≤ n) (hq : q = min n (l.length - x)) (hpart : part = (l.drop x).take n)
    (hov : OwnL recR W w0.heap.size 46 ov xs) (hne : bA ≠ bO) (hneN : bA ≠ bN) (hB1 : w0.heap.size ≤ bA) (hB2 : w0.heap.size ≤ bO)
    (ho3 : OwnL recR w3 w0.heap.size 46 v5 (xs ++ [(A, part)])) (hk3 : Blk w3 bO 173 #[ov]) (hk4 : Blk w3 bA 3 #[.int .i64 A])
    (hb3 : Below w0.heap.size w0 w3) (hsz : W.heap.size ≤ w3.heap.size) (hsame : ∀ k o, W.heap[k]? = some o → ov.ownBlock ≠ some k → w3.heap[k]? = some o) (B : Nat) :
    Recs B W ((w3.setCell ⟨bO, 0, none⟩ v5).setCell ⟨bA, 0, none⟩ (.int .i64 ((A : Int) + (q : Int)))) ∧ Tk (fun k _ => k = bS ∨ k = bN) W ((w3.setCell ⟨bO, 0, none⟩ v5).setCell ⟨bA, 0, none⟩ (.int .i64 ((A : Int) + (q : Int)))) ∧
      SpI w0 bA bO bS bN n a l (pre ++ [x]) ((w3.setCell ⟨bO, 0, none⟩ v5).setCell ⟨bA, 0, none⟩ (.int .i64 ((A : Int) + (q : Int)))) := by
  subst hxs hA
  exact split_next hI hx1 hx2 hn hq hpart hov hne hneN hB1 hB2 ho3 hk3 hk4 hb3 hsz hsame B
theorem Recs.refl (B : Nat) (W : World) : Recs B W W := ⟨Nat.le_refl _, fun _ _ _ h _ => h⟩
theorem Tk.refl {p : Nat → Obj → Prop} (W : World) : Tk p W W := fun _ _ _ h _ => h
set_option maxHeartbeats 2000000 in
set_option maxRecDepth 100000 in
theorem Split_in (n a : Nat) (p : Blocks) (v : Value) (l : List UInt8) (w : World) (h : SlR byteR w p v l) (hn : 1 ≤ n) (hn2 : n ≤ 255) (ha : a ≤ 65535) (hl : a + l.length ≤ 65536) (h0 : l ≠ []) :
    Calls Tryd.prog 116 #[.int .i64 a, .int .i64 n, v] w fun e w' => ∃ v', e = .returned v' ∧ OwnL recR w' w.heap.size 46 v' (splitL n a l) ∧ Below w.heap.size w w' := by
  obtain ⟨sa, c, rfl, hc1, hc2, g⟩ := h.byte
  obtain ⟨b, o, rfl, _, _⟩ := g 0 (l[0]'(List.length_pos_iff.2 h0)) (List.getElem?_eq_getElem _)
  have h1 : allB 1 255 [(n : Int)] = true := by simp [allB]; omega
  have h2 : allB 0 65535 [(a : Int)] = true := by simp [allB]; omega
  have H1 := Lib.hid (fun (W : World) (b : Nat) (hb : b = W.heap.size) => fits_one 1 255 n W b hb)
  have H2 := Lib.hid (fun (W : World) (b : Nat) (hb : b = W.heap.size) => fits_one 0 65535 a W b hb)
  rw [h1] at H1
  rw [h2] at H2
  have h3 : decide ((65536 : Int) - a < (l.length : Int)) = false := by simp; omega
  have hl1 : (l.length : Int) ≤ 65536 := by omega
  have ha0 : (0 : Int) ≤ (a : Int) := by omega
  have ha1 : (a : Int) ≤ 65535 := by omega
  have HSL := Lib.hid h
  have HL := Lib.hid hl
  have HC1 := Lib.hid hc1
  have HC2 := Lib.hid hc2
  clear h1 h2 h g hc1 hc2 hl
  refine (callsIn_wide (n := 9)).1 ?_
  refine callsIn_of_wp_marks Tryd.func116 rfl trivial ?_ rfl
  simp only [Tryd.ntmps116, List.size_toArray, List.length_cons, List.length_nil, Nat.reduceAdd, Nat.reduceSub, Array.replicate_succ, Array.replicate_zero, List.push_toArray, List.append_toArray, List.nil_append, List.cons_append]
  gi_wp2_with (first
    | (refine ⟨trivial, ?_⟩; gi_at_call 51; first | ((with_reducible refine (callsIn_wide.2 (H1.out _ _ (by simp))).mono ?_); rintro e w' ⟨rfl, rfl⟩) | ((with_reducible refine (callsIn_wide.2 (H2.out _ _ (by simp))).mono ?_); rintro e w' ⟨rfl, rfl⟩))
    | (refine ⟨trivial, ?_⟩; gi_at_call 143; refine (callsIn_wide.2 (Chunk_any _ _ _ n _ hn)).mono ?_; rintro e w' ⟨rfl, rfl⟩))
  obtain ⟨hk1, hk2, hk3, hk4, hb0⟩ := split_start w a n (.slice (some ⟨b, o, none⟩) l.length c)
  have HK1 := Lib.hid hk1
  have HK2 := Lib.hid hk2
  have HK3 := Lib.hid hk3
  have HK4 := Lib.hid hk4
  have HB0 := Lib.hid hb0
  clear hk1 hk2 hk3 hk4 hb0
  change Code.wpIn _ _ _ _ _ _ (splitW w a n (.slice (some ⟨b, o, none⟩) l.length c))
  generalize splitW w a n (.slice (some ⟨b, o, none⟩) l.length c) = W0 at *
  clear h3
  refine wpIn_range_mem rfl (by omega) (gf := 156) (lb := #[.pointer (some ⟨w.heap.size + 1 + 1 + 1 + 1, 0, none⟩), .pointer (some ⟨w.heap.size + 1 + 1 + 1 + 1 + 1, 0, none⟩)]) rfl trivial (enters_of Tryd.func156 (by kernel_rfl) rfl)
    (encs := encC b o n l.length) (fun _ => rfl) (chunk_seq Fence.wide 8 trivial rfl (by omega) (w.heap.size + 1 + 1 + 1 + 1) (w.heap.size + 1 + 1 + 1 + 1 + 1) b o n l.length c W0 HK3.out HK4.out hn (by omega) (by omega) HC1.out HC2.out (List.length_pos_iff.2 h0)) Tk.trans Tk.put
    (SpI w w.heap.size (w.heap.size + 1 + 1 + 1) (w.heap.size + 1 + 1 + 1 + 1) (w.heap.size + 1 + 1 + 1 + 1 + 1) n a l) (SpI.own HB0.out.size) ?start
    (fun pre x a' _ => (x = pre.length * n ∧ x < l.length) ∧ a' = { tmps := #[.int .i64 a, .int .i64 n, .slice (some ⟨b, o, none⟩) l.length c, .pointer (some ⟨w.heap.size, 0, none⟩), undef, undef, .slice none 0 0, .pointer (some ⟨w.heap.size + 1 + 1 + 1, 0, none⟩), .slice (some ⟨b, o + x, none⟩) (min n (l.length - x)) (min n (l.length - x)), .int .i64 n, .slice (some ⟨w.heap.size + 1, 0, none⟩) 1 1, .bool true, .bool false, .bool false, .int .i64 a, .slice (some ⟨w.heap.size + 1 + 1, 0, none⟩) 1 1, .bool true, .bool false, .bool false, .bool false, .slice (some ⟨b, o, none⟩) l.length c, .int .i64 l.length, .int .i64 a, .int .i64 (65536 - (a : Int)), .bool false, .bool false, .slice (some ⟨b, o, none⟩) l.length c, .int .i64 n, .func (.func 156) #[] #[.pointer (some ⟨w.heap.size + 1 + 1 + 1 + 1, 0, none⟩), .pointer (some ⟨w.heap.size + 1 + 1 + 1 + 1 + 1, 0, none⟩)], .slice (some ⟨b, o + x, none⟩) (min n (l.length - x)) (min n (l.length - x)), undef, undef, undef, undef, undef, undef, undef, undef, undef, undef, undef, undef], defers := [] })
    (fun _ _ _ _ _ _ _ h _ _ _ => h) ?assign ?body ?done
  case start => exact ⟨⟨_, HK2.out, by simpa using OwnL.nil _ _ _⟩, by simpa using HK1.out, ⟨_, _, by simp, HK3.out⟩, ⟨_, _, by simp, HK4.out⟩, HB0.out⟩
  case assign =>
    intro l' pre x W K hi hx hK
    have HX := Lib.hid hx
    have HI := Lib.hid hi
    clear hx hi
    dsimp only [encC]
    gi_wp2
    exact hK _ _ (Recs.refl _ _) (Tk.refl _) HI.out ⟨HX.out.2, rfl⟩
  case body =>
    rintro l' pre x a' W hl' hi ⟨⟨hx1, hx2⟩, rfl⟩
    have hsub : 9 - 1 - 1 = 7 := rfl
    have HI := Lib.hid hi
    obtain ⟨⟨ov, hko, hov⟩, hka, hcs, hcn, hbw⟩ := hi
    have HCS := Lib.hid hcs
    have HCN := Lib.hid hcn
    clear hcs hcn
    rw [← hx1, Nat.min_eq_left (Nat.le_of_lt hx2)] at hka
    have HKO := Lib.hid hko
    have HOV := Lib.hid hov
    have HKA := Lib.hid hka
    have HBW := Lib.hid hbw
    have HX1 := Lib.hid hx1
    have HX2 := Lib.hid hx2
    have c1 := hko.cell 0
    have c2 := hka.cell 0
    have hltO : w.heap.size + 1 + 1 + 1 < W.heap.size := hko.lt
    have hltA : w.heap.size < W.heap.size := hka.lt
    have HPT : Hid (SlR byteR W (fun k => p k ∧ k < w.heap.size) (.slice (some ⟨b, o + x, none⟩) (min n (l.length - x)) (min n (l.length - x))) ((l.drop x).take n)) := part_slR (HSL.out.old.below HBW.out) HC2.out
    have HPL : Hid (((l.drop x).take n).length = min n (l.length - x)) := by show _ = _; simp
    have HPM : Hid (((l.drop x).take n).length ≤ 1000000) := by show _ ≤ _; rw [HPL.out]; omega
    have HXL : Hid (((splitL n a l).take pre.length).length ≤ 65536) := by show _ ≤ _; rw [List.length_take]; have := splitL_le (n := n) (by omega) a l; have := HL.out; omega
    have hxb : x ≤ 65536 := by omega
    have hxa : a + x ≤ 131072 := by omega
    have hmi : min n (l.length - x) ≤ 255 := by omega
    have hmp := HPL.out
    have hmO : Tryd.prog.follows .mixedOrders = true := by kernel_rfl
    clear hko hov hka hbw hx1 hx2 hl1
    generalize hqd : min n (l.length - x) = q at *
    have HQD := Lib.hid hqd.symm
    have HQ := Lib.hid hmp
    clear hmp hqd
    generalize hpd : (l.drop x).take n = part at *
    have HPD := Lib.hid hpd.symm
    clear hpd
    generalize hA : a + x = A at *
    have HAE := Lib.hid hA
    clear hA
    generalize hxs : (splitL n a l).take pre.length = xs at *
    have HXS := Lib.hid hxs
    clear hxs
    dsimp only
    simp only [hsub]
    gi_wp2
    refine wpIn_region_any hmO ?_
    change wpAnyIn _ _ _ _ _ _ _ _ _ (World.drew _)
    refine wpAnyIn_ready (rs := [0, 1, 2]) (by kernel_rfl) (by simp) ?_
    refine AllReadyIn.cons rfl (fun K hK => ?_) ?_
    · go_simp
      refine hK _ _ ?_
      clear hK K
      refine wpAnyIn_ready (rs := [1, 2]) (by kernel_rfl) (by simp) ?_
      refine AllReadyIn.cons rfl (fun K hK => ?_) ?_
      · go_simp
        refine hK _ _ ?_
        clear hK K
        refine wpAnyIn_ready (rs := [2]) (by kernel_rfl) (by simp) ?_
        refine AllReadyIn.cons rfl (fun K hK => ?_) ?_
        · go_simp
          refine hK _ _ ?_
          clear hK K
          refine wpAnyIn_ready (rs := [3]) (by kernel_rfl) (by simp) ?_
          refine AllReadyIn.cons rfl (fun K hK => ?_) ?_
          · go_simp
            refine ⟨trivial, ?_⟩
            refine (CallsIn.inRound l' (callsIn_wide.2 (CloneByte_any _ _ part _ HPT.out.drew HPM.out))).mono ?_
            rintro e w2 ⟨v2, rfl, ho2, hb2⟩
            have HSA := Lib.hid (split_app HKO.out HKA.out HOV.out HBW.out HXL.out ho2 hb2 A)
            obtain ⟨a2, k2, rfl⟩ := ho2.form
            obtain ⟨a5, k5, w3, hrun, hpl, hk3, hk4, hb3, hsz3, hsm3⟩ := HSA.out
            rw [HQ.out] at hrun
            have HRUN := Lib.hid hrun
            have HSZ3 := Lib.hid hsz3
            have HSM3 := Lib.hid hsm3
            have HPL3 := Lib.hid hpl
            have HK3' := Lib.hid hk3
            have HK4' := Lib.hid hk4
            have HB3' := Lib.hid hb3
            have d1 := hk3.cell 0
            have d2 := hk4.cell 0
            have g1 := hk3.free 0
            have g2 := hk4.free 0
            obtain ⟨bc, bf⟩ := bcell hb2
            have hs2 := hb2.size
            have z1 : ∀ o', (w2.alloc o').cell? ⟨w.heap.size + 1 + 1 + 1, 0, none⟩ = some ov := fun o' => ((Blk.below (w := W.drew) HKO.out hb2 hltO).alloc o').cell 0
            clear hpl hk3 hk4 hb3 ho2 hrun hb2 HSA hsz3 hsm3
            rw [HQ.out]
            refine hK _ _ ?_
            clear hK K
            refine wpAnyIn_ready (rs := [4]) (by kernel_rfl) (by simp) ?_
            refine AllReadyIn.cons rfl (fun K hK => ?_) ?_
            · go_simp
              refine hK _ _ ?_
              clear hK K
              refine wpAnyIn_ready (rs := [5]) (by kernel_rfl) (by simp) ?_
              refine AllReadyIn.cons rfl (fun K hK => ?_) ?_
              · go_simp
                refine hK _ _ ?_
                clear hK K
                refine wpAnyIn_ready (rs := [6]) (by kernel_rfl) (by simp) ?_
                refine AllReadyIn.cons rfl (fun K hK => ?_) ?_
                · refine stepIn_run (o := ⟨some 36, _, _, _, _, _⟩) (by rfl) (.tmp 30) (.tmp 35) 173 (by rfl) _ _ HRUN.out ?_
                  refine hK _ _ ?_
                  clear hK K
                  refine wpAnyIn_ready (rs := [7]) (by kernel_rfl) (by simp) ?_
                  refine AllReadyIn.cons rfl (fun K hK => ?_) ?_
                  · go_simp
                    refine hK _ _ ?_
                    clear hK K
                    refine wpAnyIn_done (by kernel_rfl) ?_ _
                    gi_wp2
                    exact split_next' HXS.out HAE.out HI.out HX1.out HX2.out hn HQD.out HPD.out HOV.out (by omega) (by omega) (Nat.le_refl _) (by omega) HPL3.out HK3'.out HK4'.out HB3'.out HSZ3.out HSM3.out _
                  exact AllReadyIn.nil
                exact AllReadyIn.nil
              exact AllReadyIn.nil
            exact AllReadyIn.nil
          exact AllReadyIn.nil
        exact AllReadyIn.nil
      refine AllReadyIn.cons rfl (fun K hK => ?_) ?_
      · go_simp
        refine hK _ _ ?_
        clear hK K
        refine wpAnyIn_ready (rs := [1, 3]) (by kernel_rfl) (by simp) ?_
        refine AllReadyIn.cons rfl (fun K hK => ?_) ?_
        · go_simp
          refine hK _ _ ?_
          clear hK K
          refine wpAnyIn_ready (rs := [3]) (by kernel_rfl) (by simp) ?_
          refine AllReadyIn.cons rfl (fun K hK => ?_) ?_
          · go_simp
            refine ⟨trivial, ?_⟩
            refine (CallsIn.inRound l' (callsIn_wide.2 (CloneByte_any _ _ part _ HPT.out.drew HPM.out))).mono ?_
            rintro e w2 ⟨v2, rfl, ho2, hb2⟩
            have HSA := Lib.hid (split_app HKO.out HKA.out HOV.out HBW.out HXL.out ho2 hb2 A)
            obtain ⟨a2, k2, rfl⟩ := ho2.form
            obtain ⟨a5, k5, w3, hrun, hpl, hk3, hk4, hb3, hsz3, hsm3⟩ := HSA.out
            rw [HQ.out] at hrun
            have HRUN := Lib.hid hrun
            have HSZ3 := Lib.hid hsz3
            have HSM3 := Lib.hid hsm3
            have HPL3 := Lib.hid hpl
            have HK3' := Lib.hid hk3
            have HK4' := Lib.hid hk4
            have HB3' := Lib.hid hb3
            have d1 := hk3.cell 0
            have d2 := hk4.cell 0
            have g1 := hk3.free 0
            have g2 := hk4.free 0
            obtain ⟨bc, bf⟩ := bcell hb2
            have hs2 := hb2.size
            have z1 : ∀ o', (w2.alloc o').cell? ⟨w.heap.size + 1 + 1 + 1, 0, none⟩ = some ov := fun o' => ((Blk.below (w := W.drew) HKO.out hb2 hltO).alloc o').cell 0
            clear hpl hk3 hk4 hb3 ho2 hrun hb2 HSA hsz3 hsm3
            rw [HQ.out]
            refine hK _ _ ?_
            clear hK K
            refine wpAnyIn_ready (rs := [4]) (by kernel_rfl) (by simp) ?_
            refine AllReadyIn.cons rfl (fun K hK => ?_) ?_
            · go_simp
              refine hK _ _ ?_
              clear hK K
              refine wpAnyIn_ready (rs := [5]) (by kernel_rfl) (by simp) ?_
              refine AllReadyIn.cons rfl (fun K hK => ?_) ?_
              · go_simp
                refine hK _ _ ?_
                clear hK K
                refine wpAnyIn_ready (rs := [6]) (by kernel_rfl) (by simp) ?_
                refine AllReadyIn.cons rfl (fun K hK => ?_) ?_
                · refine stepIn_run (o := ⟨some 36, _, _, _, _, _⟩) (by rfl) (.tmp 30) (.tmp 35) 173 (by rfl) _ _ HRUN.out ?_
                  refine hK _ _ ?_
                  clear hK K
                  refine wpAnyIn_ready (rs := [7]) (by kernel_rfl) (by simp) ?_
                  refine AllReadyIn.cons rfl (fun K hK => ?_) ?_
                  · go_simp
                    refine hK _ _ ?_
                    clear hK K
                    refine wpAnyIn_done (by kernel_rfl) ?_ _
                    gi_wp2
                    exact split_next' HXS.out HAE.out HI.out HX1.out HX2.out hn HQD.out HPD.out HOV.out (by omega) (by omega) (Nat.le_refl _) (by omega) HPL3.out HK3'.out HK4'.out HB3'.out HSZ3.out HSM3.out _
                  exact AllReadyIn.nil
                exact AllReadyIn.nil
              exact AllReadyIn.nil
            exact AllReadyIn.nil
          exact AllReadyIn.nil
        refine AllReadyIn.cons rfl (fun K hK => ?_) ?_
        · go_simp
          refine ⟨trivial, ?_⟩
          refine (CallsIn.inRound l' (callsIn_wide.2 (CloneByte_any _ _ part _ HPT.out.drew HPM.out))).mono ?_
          rintro e w2 ⟨v2, rfl, ho2, hb2⟩
          have HSA := Lib.hid (split_app HKO.out HKA.out HOV.out HBW.out HXL.out ho2 hb2 A)
          obtain ⟨a2, k2, rfl⟩ := ho2.form
          obtain ⟨a5, k5, w3, hrun, hpl, hk3, hk4, hb3, hsz3, hsm3⟩ := HSA.out
          rw [HQ.out] at hrun
          have HRUN := Lib.hid hrun
          have HSZ3 := Lib.hid hsz3
          have HSM3 := Lib.hid hsm3
          have HPL3 := Lib.hid hpl
          have HK3' := Lib.hid hk3
          have HK4' := Lib.hid hk4
          have HB3' := Lib.hid hb3
          have d1 := hk3.cell 0
          have d2 := hk4.cell 0
          have g1 := hk3.free 0
          have g2 := hk4.free 0
          obtain ⟨bc, bf⟩ := bcell hb2
          have hs2 := hb2.size
          have z1 : ∀ o', (w2.alloc o').cell? ⟨w.heap.size + 1 + 1 + 1, 0, none⟩ = some ov := fun o' => ((Blk.below (w := W.drew) HKO.out hb2 hltO).alloc o').cell 0
          clear hpl hk3 hk4 hb3 ho2 hrun hb2 HSA hsz3 hsm3
          rw [HQ.out]
          refine hK _ _ ?_
          clear hK K
          refine wpAnyIn_ready (rs := [1]) (by kernel_rfl) (by simp) ?_
          refine AllReadyIn.cons rfl (fun K hK => ?_) ?_
          · go_simp
            refine hK _ _ ?_
            clear hK K
            refine wpAnyIn_ready (rs := [4]) (by kernel_rfl) (by simp) ?_
            refine AllReadyIn.cons rfl (fun K hK => ?_) ?_
            · go_simp
              refine hK _ _ ?_
              clear hK K
              refine wpAnyIn_ready (rs := [5]) (by kernel_rfl) (by simp) ?_
              refine AllReadyIn.cons rfl (fun K hK => ?_) ?_
              · go_simp
                refine hK _ _ ?_
                clear hK K
                refine wpAnyIn_ready (rs := [6]) (by kernel_rfl) (by simp) ?_
                refine AllReadyIn.cons rfl (fun K hK => ?_) ?_
                · refine stepIn_run (o := ⟨some 36, _, _, _, _, _⟩) (by rfl) (.tmp 30) (.tmp 35) 173 (by rfl) _ _ HRUN.out ?_
                  refine hK _ _ ?_
                  clear hK K
                  refine wpAnyIn_ready (rs := [7]) (by kernel_rfl) (by simp) ?_
                  refine AllReadyIn.cons rfl (fun K hK => ?_) ?_
                  · go_simp
                    refine hK _ _ ?_
                    clear hK K
                    refine wpAnyIn_done (by kernel_rfl) ?_ _
                    gi_wp2
                    exact split_next' HXS.out HAE.out HI.out HX1.out HX2.out hn HQD.out HPD.out HOV.out (by omega) (by omega) (Nat.le_refl _) (by omega) HPL3.out HK3'.out HK4'.out HB3'.out HSZ3.out HSM3.out _
                  exact AllReadyIn.nil
                exact AllReadyIn.nil
              exact AllReadyIn.nil
            exact AllReadyIn.nil
          exact AllReadyIn.nil
        exact AllReadyIn.nil
      exact AllReadyIn.nil
    refine AllReadyIn.cons rfl (fun K hK => ?_) ?_
    · go_simp
      refine hK _ _ ?_
      clear hK K
      refine wpAnyIn_ready (rs := [0, 2]) (by kernel_rfl) (by simp) ?_
      refine AllReadyIn.cons rfl (fun K hK => ?_) ?_
      · go_simp
        refine hK _ _ ?_
        clear hK K
        refine wpAnyIn_ready (rs := [2]) (by kernel_rfl) (by simp) ?_
        refine AllReadyIn.cons rfl (fun K hK => ?_) ?_
        · go_simp
          refine hK _ _ ?_
          clear hK K
          refine wpAnyIn_ready (rs := [3]) (by kernel_rfl) (by simp) ?_
          refine AllReadyIn.cons rfl (fun K hK => ?_) ?_
          · go_simp
            refine ⟨trivial, ?_⟩
            refine (CallsIn.inRound l' (callsIn_wide.2 (CloneByte_any _ _ part _ HPT.out.drew HPM.out))).mono ?_
            rintro e w2 ⟨v2, rfl, ho2, hb2⟩
            have HSA := Lib.hid (split_app HKO.out HKA.out HOV.out HBW.out HXL.out ho2 hb2 A)
            obtain ⟨a2, k2, rfl⟩ := ho2.form
            obtain ⟨a5, k5, w3, hrun, hpl, hk3, hk4, hb3, hsz3, hsm3⟩ := HSA.out
            rw [HQ.out] at hrun
            have HRUN := Lib.hid hrun
            have HSZ3 := Lib.hid hsz3
            have HSM3 := Lib.hid hsm3
            have HPL3 := Lib.hid hpl
            have HK3' := Lib.hid hk3
            have HK4' := Lib.hid hk4
            have HB3' := Lib.hid hb3
            have d1 := hk3.cell 0
            have d2 := hk4.cell 0
            have g1 := hk3.free 0
            have g2 := hk4.free 0
            obtain ⟨bc, bf⟩ := bcell hb2
            have hs2 := hb2.size
            have z1 : ∀ o', (w2.alloc o').cell? ⟨w.heap.size + 1 + 1 + 1, 0, none⟩ = some ov := fun o' => ((Blk.below (w := W.drew) HKO.out hb2 hltO).alloc o').cell 0
            clear hpl hk3 hk4 hb3 ho2 hrun hb2 HSA hsz3 hsm3
            rw [HQ.out]
            refine hK _ _ ?_
            clear hK K
            refine wpAnyIn_ready (rs := [4]) (by kernel_rfl) (by simp) ?_
            refine AllReadyIn.cons rfl (fun K hK => ?_) ?_
            · go_simp
              refine hK _ _ ?_
              clear hK K
              refine wpAnyIn_ready (rs := [5]) (by kernel_rfl) (by simp) ?_
              refine AllReadyIn.cons rfl (fun K hK => ?_) ?_
              · go_simp
                refine hK _ _ ?_
                clear hK K
                refine wpAnyIn_ready (rs := [6]) (by kernel_rfl) (by simp) ?_
                refine AllReadyIn.cons rfl (fun K hK => ?_) ?_
                · refine stepIn_run (o := ⟨some 36, _, _, _, _, _⟩) (by rfl) (.tmp 30) (.tmp 35) 173 (by rfl) _ _ HRUN.out ?_
                  refine hK _ _ ?_
                  clear hK K
                  refine wpAnyIn_ready (rs := [7]) (by kernel_rfl) (by simp) ?_
                  refine AllReadyIn.cons rfl (fun K hK => ?_) ?_
                  · go_simp
                    refine hK _ _ ?_
                    clear hK K
                    refine wpAnyIn_done (by kernel_rfl) ?_ _
                    gi_wp2
                    exact split_next' HXS.out HAE.out HI.out HX1.out HX2.out hn HQD.out HPD.out HOV.out (by omega) (by omega) (Nat.le_refl _) (by omega) HPL3.out HK3'.out HK4'.out HB3'.out HSZ3.out HSM3.out _
                  exact AllReadyIn.nil
                exact AllReadyIn.nil
              exact AllReadyIn.nil
            exact AllReadyIn.nil
          exact AllReadyIn.nil
        exact AllReadyIn.nil
      refine AllReadyIn.cons rfl (fun K hK => ?_) ?_
      · go_simp
        refine hK _ _ ?_
        clear hK K
        refine wpAnyIn_ready (rs := [0, 3]) (by kernel_rfl) (by simp) ?_
        refine AllReadyIn.cons rfl (fun K hK => ?_) ?_
        · go_simp
          refine hK _ _ ?_
          clear hK K
          refine wpAnyIn_ready (rs := [3]) (by kernel_rfl) (by simp) ?_
          refine AllReadyIn.cons rfl (fun K hK => ?_) ?_
          · go_simp
            refine ⟨trivial, ?_⟩
            refine (CallsIn.inRound l' (callsIn_wide.2 (CloneByte_any _ _ part _ HPT.out.drew HPM.out))).mono ?_
            rintro e w2 ⟨v2, rfl, ho2, hb2⟩
            have HSA := Lib.hid (split_app HKO.out HKA.out HOV.out HBW.out HXL.out ho2 hb2 A)
            obtain ⟨a2, k2, rfl⟩ := ho2.form
            obtain ⟨a5, k5, w3, hrun, hpl, hk3, hk4, hb3, hsz3, hsm3⟩ := HSA.out
            rw [HQ.out] at hrun
            have HRUN := Lib.hid hrun
            have HSZ3 := Lib.hid hsz3
            have HSM3 := Lib.hid hsm3
            have HPL3 := Lib.hid hpl
            have HK3' := Lib.hid hk3
            have HK4' := Lib.hid hk4
            have HB3' := Lib.hid hb3
            have d1 := hk3.cell 0
            have d2 := hk4.cell 0
            have g1 := hk3.free 0
            have g2 := hk4.free 0
            obtain ⟨bc, bf⟩ := bcell hb2
            have hs2 := hb2.size
            have z1 : ∀ o', (w2.alloc o').cell? ⟨w.heap.size + 1 + 1 + 1, 0, none⟩ = some ov := fun o' => ((Blk.below (w := W.drew) HKO.out hb2 hltO).alloc o').cell 0
            clear hpl hk3 hk4 hb3 ho2 hrun hb2 HSA hsz3 hsm3
            rw [HQ.out]
            refine hK _ _ ?_
            clear hK K
            refine wpAnyIn_ready (rs := [4]) (by kernel_rfl) (by simp) ?_
            refine AllReadyIn.cons rfl (fun K hK => ?_) ?_
            · go_simp
              refine hK _ _ ?_
              clear hK K
              refine wpAnyIn_ready (rs := [5]) (by kernel_rfl) (by simp) ?_
              refine AllReadyIn.cons rfl (fun K hK => ?_) ?_
              · go_simp
                refine hK _ _ ?_
                clear hK K
                refine wpAnyIn_ready (rs := [6]) (by kernel_rfl) (by simp) ?_
                refine AllReadyIn.cons rfl (fun K hK => ?_) ?_
                · refine stepIn_run (o := ⟨some 36, _, _, _, _, _⟩) (by rfl) (.tmp 30) (.tmp 35) 173 (by rfl) _ _ HRUN.out ?_
                  refine hK _ _ ?_
                  clear hK K
                  refine wpAnyIn_ready (rs := [7]) (by kernel_rfl) (by simp) ?_
                  refine AllReadyIn.cons rfl (fun K hK => ?_) ?_
                  · go_simp
                    refine hK _ _ ?_
                    clear hK K
                    refine wpAnyIn_done (by kernel_rfl) ?_ _
                    gi_wp2
                    exact split_next' HXS.out HAE.out HI.out HX1.out HX2.out hn HQD.out HPD.out HOV.out (by omega) (by omega) (Nat.le_refl _) (by omega) HPL3.out HK3'.out HK4'.out HB3'.out HSZ3.out HSM3.out _
                  exact AllReadyIn.nil
                exact AllReadyIn.nil
              exact AllReadyIn.nil
            exact AllReadyIn.nil
          exact AllReadyIn.nil
        refine AllReadyIn.cons rfl (fun K hK => ?_) ?_
        · go_simp
          refine ⟨trivial, ?_⟩
          refine (CallsIn.inRound l' (callsIn_wide.2 (CloneByte_any _ _ part _ HPT.out.drew HPM.out))).mono ?_
          rintro e w2 ⟨v2, rfl, ho2, hb2⟩
          have HSA := Lib.hid (split_app HKO.out HKA.out HOV.out HBW.out HXL.out ho2 hb2 A)
          obtain ⟨a2, k2, rfl⟩ := ho2.form
          obtain ⟨a5, k5, w3, hrun, hpl, hk3, hk4, hb3, hsz3, hsm3⟩ := HSA.out
          rw [HQ.out] at hrun
          have HRUN := Lib.hid hrun
          have HSZ3 := Lib.hid hsz3
          have HSM3 := Lib.hid hsm3
          have HPL3 := Lib.hid hpl
          have HK3' := Lib.hid hk3
          have HK4' := Lib.hid hk4
          have HB3' := Lib.hid hb3
          have d1 := hk3.cell 0
          have d2 := hk4.cell 0
          have g1 := hk3.free 0
          have g2 := hk4.free 0
          obtain ⟨bc, bf⟩ := bcell hb2
          have hs2 := hb2.size
          have z1 : ∀ o', (w2.alloc o').cell? ⟨w.heap.size + 1 + 1 + 1, 0, none⟩ = some ov := fun o' => ((Blk.below (w := W.drew) HKO.out hb2 hltO).alloc o').cell 0
          clear hpl hk3 hk4 hb3 ho2 hrun hb2 HSA hsz3 hsm3
          rw [HQ.out]
          refine hK _ _ ?_
          clear hK K
          refine wpAnyIn_ready (rs := [0, 4]) (by kernel_rfl) (by simp) ?_
          refine AllReadyIn.cons rfl (fun K hK => ?_) ?_
          · go_simp
            refine hK _ _ ?_
            clear hK K
            refine wpAnyIn_ready (rs := [4]) (by kernel_rfl) (by simp) ?_
            refine AllReadyIn.cons rfl (fun K hK => ?_) ?_
            · go_simp
              refine hK _ _ ?_
              clear hK K
              refine wpAnyIn_ready (rs := [5]) (by kernel_rfl) (by simp) ?_
              refine AllReadyIn.cons rfl (fun K hK => ?_) ?_
              · go_simp
                refine hK _ _ ?_
                clear hK K
                refine wpAnyIn_ready (rs := [6]) (by kernel_rfl) (by simp) ?_
                refine AllReadyIn.cons rfl (fun K hK => ?_) ?_
                · refine stepIn_run (o := ⟨some 36, _, _, _, _, _⟩) (by rfl) (.tmp 30) (.tmp 35) 173 (by rfl) _ _ HRUN.out ?_
                  refine hK _ _ ?_
                  clear hK K
                  refine wpAnyIn_ready (rs := [7]) (by kernel_rfl) (by simp) ?_
                  refine AllReadyIn.cons rfl (fun K hK => ?_) ?_
                  · go_simp
                    refine hK _ _ ?_
                    clear hK K
                    refine wpAnyIn_done (by kernel_rfl) ?_ _
                    gi_wp2
                    exact split_next' HXS.out HAE.out HI.out HX1.out HX2.out hn HQD.out HPD.out HOV.out (by omega) (by omega) (Nat.le_refl _) (by omega) HPL3.out HK3'.out HK4'.out HB3'.out HSZ3.out HSM3.out _
                  exact AllReadyIn.nil
                exact AllReadyIn.nil
              exact AllReadyIn.nil
            exact AllReadyIn.nil
          refine AllReadyIn.cons rfl (fun K hK => ?_) ?_
          · go_simp
            refine hK _ _ ?_
            clear hK K
            refine wpAnyIn_ready (rs := [0, 5]) (by kernel_rfl) (by simp) ?_
            refine AllReadyIn.cons rfl (fun K hK => ?_) ?_
            · go_simp
              refine hK _ _ ?_
              clear hK K
              refine wpAnyIn_ready (rs := [5]) (by kernel_rfl) (by simp) ?_
              refine AllReadyIn.cons rfl (fun K hK => ?_) ?_
              · go_simp
                refine hK _ _ ?_
                clear hK K
                refine wpAnyIn_ready (rs := [6]) (by kernel_rfl) (by simp) ?_
                refine AllReadyIn.cons rfl (fun K hK => ?_) ?_
                · refine stepIn_run (o := ⟨some 36, _, _, _, _, _⟩) (by rfl) (.tmp 30) (.tmp 35) 173 (by rfl) _ _ HRUN.out ?_
                  refine hK _ _ ?_
                  clear hK K
                  refine wpAnyIn_ready (rs := [7]) (by kernel_rfl) (by simp) ?_
                  refine AllReadyIn.cons rfl (fun K hK => ?_) ?_
                  · go_simp
                    refine hK _ _ ?_
                    clear hK K
                    refine wpAnyIn_done (by kernel_rfl) ?_ _
                    gi_wp2
                    exact split_next' HXS.out HAE.out HI.out HX1.out HX2.out hn HQD.out HPD.out HOV.out (by omega) (by omega) (Nat.le_refl _) (by omega) HPL3.out HK3'.out HK4'.out HB3'.out HSZ3.out HSM3.out _
                  exact AllReadyIn.nil
                exact AllReadyIn.nil
              exact AllReadyIn.nil
            refine AllReadyIn.cons rfl (fun K hK => ?_) ?_
            · go_simp
              refine hK _ _ ?_
              clear hK K
              refine wpAnyIn_ready (rs := [0]) (by kernel_rfl) (by simp) ?_
              refine AllReadyIn.cons rfl (fun K hK => ?_) ?_
              · go_simp
                refine hK _ _ ?_
                clear hK K
                refine wpAnyIn_ready (rs := [6]) (by kernel_rfl) (by simp) ?_
                refine AllReadyIn.cons rfl (fun K hK => ?_) ?_
                · refine stepIn_run (o := ⟨some 36, _, _, _, _, _⟩) (by rfl) (.tmp 30) (.tmp 35) 173 (by rfl) _ _ HRUN.out ?_
                  refine hK _ _ ?_
                  clear hK K
                  refine wpAnyIn_ready (rs := [7]) (by kernel_rfl) (by simp) ?_
                  refine AllReadyIn.cons rfl (fun K hK => ?_) ?_
                  · go_simp
                    refine hK _ _ ?_
                    clear hK K
                    refine wpAnyIn_done (by kernel_rfl) ?_ _
                    gi_wp2
                    exact split_next' HXS.out HAE.out HI.out HX1.out HX2.out hn HQD.out HPD.out HOV.out (by omega) (by omega) (Nat.le_refl _) (by omega) HPL3.out HK3'.out HK4'.out HB3'.out HSZ3.out HSM3.out _
                  exact AllReadyIn.nil
                exact AllReadyIn.nil
              exact AllReadyIn.nil
            exact AllReadyIn.nil
          exact AllReadyIn.nil
        exact AllReadyIn.nil
      exact AllReadyIn.nil
    refine AllReadyIn.cons rfl (fun K hK => ?_) ?_
    · go_simp
      refine hK _ _ ?_
      clear hK K
      refine wpAnyIn_ready (rs := [0, 1, 3]) (by kernel_rfl) (by simp) ?_
      refine AllReadyIn.cons rfl (fun K hK => ?_) ?_
      · go_simp
        refine hK _ _ ?_
        clear hK K
        refine wpAnyIn_ready (rs := [1, 3]) (by kernel_rfl) (by simp) ?_
        refine AllReadyIn.cons rfl (fun K hK => ?_) ?_
        · go_simp
          refine hK _ _ ?_
          clear hK K
          refine wpAnyIn_ready (rs := [3]) (by kernel_rfl) (by simp) ?_
          refine AllReadyIn.cons rfl (fun K hK => ?_) ?_
          · go_simp
            refine ⟨trivial, ?_⟩
            refine (CallsIn.inRound l' (callsIn_wide.2 (CloneByte_any _ _ part _ HPT.out.drew HPM.out))).mono ?_
            rintro e w2 ⟨v2, rfl, ho2, hb2⟩
            have HSA := Lib.hid (split_app HKO.out HKA.out HOV.out HBW.out HXL.out ho2 hb2 A)
            obtain ⟨a2, k2, rfl⟩ := ho2.form
            obtain ⟨a5, k5, w3, hrun, hpl, hk3, hk4, hb3, hsz3, hsm3⟩ := HSA.out
            rw [HQ.out] at hrun
            have HRUN := Lib.hid hrun
            have HSZ3 := Lib.hid hsz3
            have HSM3 := Lib.hid hsm3
            have HPL3 := Lib.hid hpl
            have HK3' := Lib.hid hk3
            have HK4' := Lib.hid hk4
            have HB3' := Lib.hid hb3
            have d1 := hk3.cell 0
            have d2 := hk4.cell 0
            have g1 := hk3.free 0
            have g2 := hk4.free 0
            obtain ⟨bc, bf⟩ := bcell hb2
            have hs2 := hb2.size
            have z1 : ∀ o', (w2.alloc o').cell? ⟨w.heap.size + 1 + 1 + 1, 0, none⟩ = some ov := fun o' => ((Blk.below (w := W.drew) HKO.out hb2 hltO).alloc o').cell 0
            clear hpl hk3 hk4 hb3 ho2 hrun hb2 HSA hsz3 hsm3
            rw [HQ.out]
            refine hK _ _ ?_
            clear hK K
            refine wpAnyIn_ready (rs := [4]) (by kernel_rfl) (by simp) ?_
            refine AllReadyIn.cons rfl (fun K hK => ?_) ?_
            · go_simp
              refine hK _ _ ?_
              clear hK K
              refine wpAnyIn_ready (rs := [5]) (by kernel_rfl) (by simp) ?_
              refine AllReadyIn.cons rfl (fun K hK => ?_) ?_
              · go_simp
                refine hK _ _ ?_
                clear hK K
                refine wpAnyIn_ready (rs := [6]) (by kernel_rfl) (by simp) ?_
                refine AllReadyIn.cons rfl (fun K hK => ?_) ?_
                · refine stepIn_run (o := ⟨some 36, _, _, _, _, _⟩) (by rfl) (.tmp 30) (.tmp 35) 173 (by rfl) _ _ HRUN.out ?_
                  refine hK _ _ ?_
                  clear hK K
                  refine wpAnyIn_ready (rs := [7]) (by kernel_rfl) (by simp) ?_
                  refine AllReadyIn.cons rfl (fun K hK => ?_) ?_
                  · go_simp
                    refine hK _ _ ?_
                    clear hK K
                    refine wpAnyIn_done (by kernel_rfl) ?_ _
                    gi_wp2
                    exact split_next' HXS.out HAE.out HI.out HX1.out HX2.out hn HQD.out HPD.out HOV.out (by omega) (by omega) (Nat.le_refl _) (by omega) HPL3.out HK3'.out HK4'.out HB3'.out HSZ3.out HSM3.out _
                  exact AllReadyIn.nil
                exact AllReadyIn.nil
              exact AllReadyIn.nil
            exact AllReadyIn.nil
          exact AllReadyIn.nil
        refine AllReadyIn.cons rfl (fun K hK => ?_) ?_
        · go_simp
          refine ⟨trivial, ?_⟩
          refine (CallsIn.inRound l' (callsIn_wide.2 (CloneByte_any _ _ part _ HPT.out.drew HPM.out))).mono ?_
          rintro e w2 ⟨v2, rfl, ho2, hb2⟩
          have HSA := Lib.hid (split_app HKO.out HKA.out HOV.out HBW.out HXL.out ho2 hb2 A)
          obtain ⟨a2, k2, rfl⟩ := ho2.form
          obtain ⟨a5, k5, w3, hrun, hpl, hk3, hk4, hb3, hsz3, hsm3⟩ := HSA.out
          rw [HQ.out] at hrun
          have HRUN := Lib.hid hrun
          have HSZ3 := Lib.hid hsz3
          have HSM3 := Lib.hid hsm3
          have HPL3 := Lib.hid hpl
          have HK3' := Lib.hid hk3
          have HK4' := Lib.hid hk4
          have HB3' := Lib.hid hb3
          have d1 := hk3.cell 0
          have d2 := hk4.cell 0
          have g1 := hk3.free 0
          have g2 := hk4.free 0
          obtain ⟨bc, bf⟩ := bcell hb2
          have hs2 := hb2.size
          have z1 : ∀ o', (w2.alloc o').cell? ⟨w.heap.size + 1 + 1 + 1, 0, none⟩ = some ov := fun o' => ((Blk.below (w := W.drew) HKO.out hb2 hltO).alloc o').cell 0
          clear hpl hk3 hk4 hb3 ho2 hrun hb2 HSA hsz3 hsm3
          rw [HQ.out]
          refine hK _ _ ?_
          clear hK K
          refine wpAnyIn_ready (rs := [1]) (by kernel_rfl) (by simp) ?_
          refine AllReadyIn.cons rfl (fun K hK => ?_) ?_
          · go_simp
            refine hK _ _ ?_
            clear hK K
            refine wpAnyIn_ready (rs := [4]) (by kernel_rfl) (by simp) ?_
            refine AllReadyIn.cons rfl (fun K hK => ?_) ?_
            · go_simp
              refine hK _ _ ?_
              clear hK K
              refine wpAnyIn_ready (rs := [5]) (by kernel_rfl) (by simp) ?_
              refine AllReadyIn.cons rfl (fun K hK => ?_) ?_
              · go_simp
                refine hK _ _ ?_
                clear hK K
                refine wpAnyIn_ready (rs := [6]) (by kernel_rfl) (by simp) ?_
                refine AllReadyIn.cons rfl (fun K hK => ?_) ?_
                · refine stepIn_run (o := ⟨some 36, _, _, _, _, _⟩) (by rfl) (.tmp 30) (.tmp 35) 173 (by rfl) _ _ HRUN.out ?_
                  refine hK _ _ ?_
                  clear hK K
                  refine wpAnyIn_ready (rs := [7]) (by kernel_rfl) (by simp) ?_
                  refine AllReadyIn.cons rfl (fun K hK => ?_) ?_
                  · go_simp
                    refine hK _ _ ?_
                    clear hK K
                    refine wpAnyIn_done (by kernel_rfl) ?_ _
                    gi_wp2
                    exact split_next' HXS.out HAE.out HI.out HX1.out HX2.out hn HQD.out HPD.out HOV.out (by omega) (by omega) (Nat.le_refl _) (by omega) HPL3.out HK3'.out HK4'.out HB3'.out HSZ3.out HSM3.out _
                  exact AllReadyIn.nil
                exact AllReadyIn.nil
              exact AllReadyIn.nil
            exact AllReadyIn.nil
          exact AllReadyIn.nil
        exact AllReadyIn.nil
      refine AllReadyIn.cons rfl (fun K hK => ?_) ?_
      · go_simp
        refine hK _ _ ?_
        clear hK K
        refine wpAnyIn_ready (rs := [0, 3]) (by kernel_rfl) (by simp) ?_
        refine AllReadyIn.cons rfl (fun K hK => ?_) ?_
        · go_simp
          refine hK _ _ ?_
          clear hK K
          refine wpAnyIn_ready (rs := [3]) (by kernel_rfl) (by simp) ?_
          refine AllReadyIn.cons rfl (fun K hK => ?_) ?_
          · go_simp
            refine ⟨trivial, ?_⟩
            refine (CallsIn.inRound l' (callsIn_wide.2 (CloneByte_any _ _ part _ HPT.out.drew HPM.out))).mono ?_
            rintro e w2 ⟨v2, rfl, ho2, hb2⟩
            have HSA := Lib.hid (split_app HKO.out HKA.out HOV.out HBW.out HXL.out ho2 hb2 A)
            obtain ⟨a2, k2, rfl⟩ := ho2.form
            obtain ⟨a5, k5, w3, hrun, hpl, hk3, hk4, hb3, hsz3, hsm3⟩ := HSA.out
            rw [HQ.out] at hrun
            have HRUN := Lib.hid hrun
            have HSZ3 := Lib.hid hsz3
            have HSM3 := Lib.hid hsm3
            have HPL3 := Lib.hid hpl
            have HK3' := Lib.hid hk3
            have HK4' := Lib.hid hk4
            have HB3' := Lib.hid hb3
            have d1 := hk3.cell 0
            have d2 := hk4.cell 0
            have g1 := hk3.free 0
            have g2 := hk4.free 0
            obtain ⟨bc, bf⟩ := bcell hb2
            have hs2 := hb2.size
            have z1 : ∀ o', (w2.alloc o').cell? ⟨w.heap.size + 1 + 1 + 1, 0, none⟩ = some ov := fun o' => ((Blk.below (w := W.drew) HKO.out hb2 hltO).alloc o').cell 0
            clear hpl hk3 hk4 hb3 ho2 hrun hb2 HSA hsz3 hsm3
            rw [HQ.out]
            refine hK _ _ ?_
            clear hK K
            refine wpAnyIn_ready (rs := [4]) (by kernel_rfl) (by simp) ?_
            refine AllReadyIn.cons rfl (fun K hK => ?_) ?_
            · go_simp
              refine hK _ _ ?_
              clear hK K
              refine wpAnyIn_ready (rs := [5]) (by kernel_rfl) (by simp) ?_
              refine AllReadyIn.cons rfl (fun K hK => ?_) ?_
              · go_simp
                refine hK _ _ ?_
                clear hK K
                refine wpAnyIn_ready (rs := [6]) (by kernel_rfl) (by simp) ?_
                refine AllReadyIn.cons rfl (fun K hK => ?_) ?_
                · refine stepIn_run (o := ⟨some 36, _, _, _, _, _⟩) (by rfl) (.tmp 30) (.tmp 35) 173 (by rfl) _ _ HRUN.out ?_
                  refine hK _ _ ?_
                  clear hK K
                  refine wpAnyIn_ready (rs := [7]) (by kernel_rfl) (by simp) ?_
                  refine AllReadyIn.cons rfl (fun K hK => ?_) ?_
                  · go_simp
                    refine hK _ _ ?_
                    clear hK K
                    refine wpAnyIn_done (by kernel_rfl) ?_ _
                    gi_wp2
                    exact split_next' HXS.out HAE.out HI.out HX1.out HX2.out hn HQD.out HPD.out HOV.out (by omega) (by omega) (Nat.le_refl _) (by omega) HPL3.out HK3'.out HK4'.out HB3'.out HSZ3.out HSM3.out _
                  exact AllReadyIn.nil
                exact AllReadyIn.nil
              exact AllReadyIn.nil
            exact AllReadyIn.nil
          exact AllReadyIn.nil
        refine AllReadyIn.cons rfl (fun K hK => ?_) ?_
        · go_simp
          refine ⟨trivial, ?_⟩
          refine (CallsIn.inRound l' (callsIn_wide.2 (CloneByte_any _ _ part _ HPT.out.drew HPM.out))).mono ?_
          rintro e w2 ⟨v2, rfl, ho2, hb2⟩
          have HSA := Lib.hid (split_app HKO.out HKA.out HOV.out HBW.out HXL.out ho2 hb2 A)
          obtain ⟨a2, k2, rfl⟩ := ho2.form
          obtain ⟨a5, k5, w3, hrun, hpl, hk3, hk4, hb3, hsz3, hsm3⟩ := HSA.out
          rw [HQ.out] at hrun
          have HRUN := Lib.hid hrun
          have HSZ3 := Lib.hid hsz3
          have HSM3 := Lib.hid hsm3
          have HPL3 := Lib.hid hpl
          have HK3' := Lib.hid hk3
          have HK4' := Lib.hid hk4
          have HB3' := Lib.hid hb3
          have d1 := hk3.cell 0
          have d2 := hk4.cell 0
          have g1 := hk3.free 0
          have g2 := hk4.free 0
          obtain ⟨bc, bf⟩ := bcell hb2
          have hs2 := hb2.size
          have z1 : ∀ o', (w2.alloc o').cell? ⟨w.heap.size + 1 + 1 + 1, 0, none⟩ = some ov := fun o' => ((Blk.below (w := W.drew) HKO.out hb2 hltO).alloc o').cell 0
          clear hpl hk3 hk4 hb3 ho2 hrun hb2 HSA hsz3 hsm3
          rw [HQ.out]
          refine hK _ _ ?_
          clear hK K
          refine wpAnyIn_ready (rs := [0, 4]) (by kernel_rfl) (by simp) ?_
          refine AllReadyIn.cons rfl (fun K hK => ?_) ?_
          · go_simp
            refine hK _ _ ?_
            clear hK K
            refine wpAnyIn_ready (rs := [4]) (by kernel_rfl) (by simp) ?_
            refine AllReadyIn.cons rfl (fun K hK => ?_) ?_
            · go_simp
              refine hK _ _ ?_
              clear hK K
              refine wpAnyIn_ready (rs := [5]) (by kernel_rfl) (by simp) ?_
              refine AllReadyIn.cons rfl (fun K hK => ?_) ?_
              · go_simp
                refine hK _ _ ?_
                clear hK K
                refine wpAnyIn_ready (rs := [6]) (by kernel_rfl) (by simp) ?_
                refine AllReadyIn.cons rfl (fun K hK => ?_) ?_
                · refine stepIn_run (o := ⟨some 36, _, _, _, _, _⟩) (by rfl) (.tmp 30) (.tmp 35) 173 (by rfl) _ _ HRUN.out ?_
                  refine hK _ _ ?_
                  clear hK K
                  refine wpAnyIn_ready (rs := [7]) (by kernel_rfl) (by simp) ?_
                  refine AllReadyIn.cons rfl (fun K hK => ?_) ?_
                  · go_simp
                    refine hK _ _ ?_
                    clear hK K
                    refine wpAnyIn_done (by kernel_rfl) ?_ _
                    gi_wp2
                    exact split_next' HXS.out HAE.out HI.out HX1.out HX2.out hn HQD.out HPD.out HOV.out (by omega) (by omega) (Nat.le_refl _) (by omega) HPL3.out HK3'.out HK4'.out HB3'.out HSZ3.out HSM3.out _
                  exact AllReadyIn.nil
                exact AllReadyIn.nil
              exact AllReadyIn.nil
            exact AllReadyIn.nil
          refine AllReadyIn.cons rfl (fun K hK => ?_) ?_
          · go_simp
            refine hK _ _ ?_
            clear hK K
            refine wpAnyIn_ready (rs := [0, 5]) (by kernel_rfl) (by simp) ?_
            refine AllReadyIn.cons rfl (fun K hK => ?_) ?_
            · go_simp
              refine hK _ _ ?_
              clear hK K
              refine wpAnyIn_ready (rs := [5]) (by kernel_rfl) (by simp) ?_
              refine AllReadyIn.cons rfl (fun K hK => ?_) ?_
              · go_simp
                refine hK _ _ ?_
                clear hK K
                refine wpAnyIn_ready (rs := [6]) (by kernel_rfl) (by simp) ?_
                refine AllReadyIn.cons rfl (fun K hK => ?_) ?_
                · refine stepIn_run (o := ⟨some 36, _, _, _, _, _⟩) (by rfl) (.tmp 30) (.tmp 35) 173 (by rfl) _ _ HRUN.out ?_
                  refine hK _ _ ?_
                  clear hK K
                  refine wpAnyIn_ready (rs := [7]) (by kernel_rfl) (by simp) ?_
                  refine AllReadyIn.cons rfl (fun K hK => ?_) ?_
                  · go_simp
                    refine hK _ _ ?_
                    clear hK K
                    refine wpAnyIn_done (by kernel_rfl) ?_ _
                    gi_wp2
                    exact split_next' HXS.out HAE.out HI.out HX1.out HX2.out hn HQD.out HPD.out HOV.out (by omega) (by omega) (Nat.le_refl _) (by omega) HPL3.out HK3'.out HK4'.out HB3'.out HSZ3.out HSM3.out _
                  exact AllReadyIn.nil
                exact AllReadyIn.nil
              exact AllReadyIn.nil
            refine AllReadyIn.cons rfl (fun K hK => ?_) ?_
            · go_simp
              refine hK _ _ ?_
              clear hK K
              refine wpAnyIn_ready (rs := [0]) (by kernel_rfl) (by simp) ?_
              refine AllReadyIn.cons rfl (fun K hK => ?_) ?_
              · go_simp
                refine hK _ _ ?_
                clear hK K
                refine wpAnyIn_ready (rs := [6]) (by kernel_rfl) (by simp) ?_
                refine AllReadyIn.cons rfl (fun K hK => ?_) ?_
                · refine stepIn_run (o := ⟨some 36, _, _, _, _, _⟩) (by rfl) (.tmp 30) (.tmp 35) 173 (by rfl) _ _ HRUN.out ?_
                  refine hK _ _ ?_
                  clear hK K
                  refine wpAnyIn_ready (rs := [7]) (by kernel_rfl) (by simp) ?_
                  refine AllReadyIn.cons rfl (fun K hK => ?_) ?_
                  · go_simp
                    refine hK _ _ ?_
                    clear hK K
                    refine wpAnyIn_done (by kernel_rfl) ?_ _
                    gi_wp2
                    exact split_next' HXS.out HAE.out HI.out HX1.out HX2.out hn HQD.out HPD.out HOV.out (by omega) (by omega) (Nat.le_refl _) (by omega) HPL3.out HK3'.out HK4'.out HB3'.out HSZ3.out HSM3.out _
                  exact AllReadyIn.nil
                exact AllReadyIn.nil
              exact AllReadyIn.nil
            exact AllReadyIn.nil
          exact AllReadyIn.nil
        exact AllReadyIn.nil
      refine AllReadyIn.cons rfl (fun K hK => ?_) ?_
      · go_simp
        refine ⟨trivial, ?_⟩
        refine (CallsIn.inRound l' (callsIn_wide.2 (CloneByte_any _ _ part _ HPT.out.drew HPM.out))).mono ?_
        rintro e w2 ⟨v2, rfl, ho2, hb2⟩
        have HSA := Lib.hid (split_app HKO.out HKA.out HOV.out HBW.out HXL.out ho2 hb2 A)
        obtain ⟨a2, k2, rfl⟩ := ho2.form
        obtain ⟨a5, k5, w3, hrun, hpl, hk3, hk4, hb3, hsz3, hsm3⟩ := HSA.out
        rw [HQ.out] at hrun
        have HRUN := Lib.hid hrun
        have HSZ3 := Lib.hid hsz3
        have HSM3 := Lib.hid hsm3
        have HPL3 := Lib.hid hpl
        have HK3' := Lib.hid hk3
        have HK4' := Lib.hid hk4
        have HB3' := Lib.hid hb3
        have d1 := hk3.cell 0
        have d2 := hk4.cell 0
        have g1 := hk3.free 0
        have g2 := hk4.free 0
        obtain ⟨bc, bf⟩ := bcell hb2
        have hs2 := hb2.size
        have z1 : ∀ o', (w2.alloc o').cell? ⟨w.heap.size + 1 + 1 + 1, 0, none⟩ = some ov := fun o' => ((Blk.below (w := W.drew) HKO.out hb2 hltO).alloc o').cell 0
        clear hpl hk3 hk4 hb3 ho2 hrun hb2 HSA hsz3 hsm3
        rw [HQ.out]
        refine hK _ _ ?_
        clear hK K
        refine wpAnyIn_ready (rs := [0, 1]) (by kernel_rfl) (by simp) ?_
        refine AllReadyIn.cons rfl (fun K hK => ?_) ?_
        · go_simp
          refine hK _ _ ?_
          clear hK K
          refine wpAnyIn_ready (rs := [1]) (by kernel_rfl) (by simp) ?_
          refine AllReadyIn.cons rfl (fun K hK => ?_) ?_
          · go_simp
            refine hK _ _ ?_
            clear hK K
            refine wpAnyIn_ready (rs := [4]) (by kernel_rfl) (by simp) ?_
            refine AllReadyIn.cons rfl (fun K hK => ?_) ?_
            · go_simp
              refine hK _ _ ?_
              clear hK K
              refine wpAnyIn_ready (rs := [5]) (by kernel_rfl) (by simp) ?_
              refine AllReadyIn.cons rfl (fun K hK => ?_) ?_
              · go_simp
                refine hK _ _ ?_
                clear hK K
                refine wpAnyIn_ready (rs := [6]) (by kernel_rfl) (by simp) ?_
                refine AllReadyIn.cons rfl (fun K hK => ?_) ?_
                · refine stepIn_run (o := ⟨some 36, _, _, _, _, _⟩) (by rfl) (.tmp 30) (.tmp 35) 173 (by rfl) _ _ HRUN.out ?_
                  refine hK _ _ ?_
                  clear hK K
                  refine wpAnyIn_ready (rs := [7]) (by kernel_rfl) (by simp) ?_
                  refine AllReadyIn.cons rfl (fun K hK => ?_) ?_
                  · go_simp
                    refine hK _ _ ?_
                    clear hK K
                    refine wpAnyIn_done (by kernel_rfl) ?_ _
                    gi_wp2
                    exact split_next' HXS.out HAE.out HI.out HX1.out HX2.out hn HQD.out HPD.out HOV.out (by omega) (by omega) (Nat.le_refl _) (by omega) HPL3.out HK3'.out HK4'.out HB3'.out HSZ3.out HSM3.out _
                  exact AllReadyIn.nil
                exact AllReadyIn.nil
              exact AllReadyIn.nil
            exact AllReadyIn.nil
          exact AllReadyIn.nil
        refine AllReadyIn.cons rfl (fun K hK => ?_) ?_
        · go_simp
          refine hK _ _ ?_
          clear hK K
          refine wpAnyIn_ready (rs := [0, 4]) (by kernel_rfl) (by simp) ?_
          refine AllReadyIn.cons rfl (fun K hK => ?_) ?_
          · go_simp
            refine hK _ _ ?_
            clear hK K
            refine wpAnyIn_ready (rs := [4]) (by kernel_rfl) (by simp) ?_
            refine AllReadyIn.cons rfl (fun K hK => ?_) ?_
            · go_simp
              refine hK _ _ ?_
              clear hK K
              refine wpAnyIn_ready (rs := [5]) (by kernel_rfl) (by simp) ?_
              refine AllReadyIn.cons rfl (fun K hK => ?_) ?_
              · go_simp
                refine hK _ _ ?_
                clear hK K
                refine wpAnyIn_ready (rs := [6]) (by kernel_rfl) (by simp) ?_
                refine AllReadyIn.cons rfl (fun K hK => ?_) ?_
                · refine stepIn_run (o := ⟨some 36, _, _, _, _, _⟩) (by rfl) (.tmp 30) (.tmp 35) 173 (by rfl) _ _ HRUN.out ?_
                  refine hK _ _ ?_
                  clear hK K
                  refine wpAnyIn_ready (rs := [7]) (by kernel_rfl) (by simp) ?_
                  refine AllReadyIn.cons rfl (fun K hK => ?_) ?_
                  · go_simp
                    refine hK _ _ ?_
                    clear hK K
                    refine wpAnyIn_done (by kernel_rfl) ?_ _
                    gi_wp2
                    exact split_next' HXS.out HAE.out HI.out HX1.out HX2.out hn HQD.out HPD.out HOV.out (by omega) (by omega) (Nat.le_refl _) (by omega) HPL3.out HK3'.out HK4'.out HB3'.out HSZ3.out HSM3.out _
                  exact AllReadyIn.nil
                exact AllReadyIn.nil
              exact AllReadyIn.nil
            exact AllReadyIn.nil
          refine AllReadyIn.cons rfl (fun K hK => ?_) ?_
          · go_simp
            refine hK _ _ ?_
            clear hK K
            refine wpAnyIn_ready (rs := [0, 5]) (by kernel_rfl) (by simp) ?_
            refine AllReadyIn.cons rfl (fun K hK => ?_) ?_
            · go_simp
              refine hK _ _ ?_
              clear hK K
              refine wpAnyIn_ready (rs := [5]) (by kernel_rfl) (by simp) ?_
              refine AllReadyIn.cons rfl (fun K hK => ?_) ?_
              · go_simp
                refine hK _ _ ?_
                clear hK K
                refine wpAnyIn_ready (rs := [6]) (by kernel_rfl) (by simp) ?_
                refine AllReadyIn.cons rfl (fun K hK => ?_) ?_
                · refine stepIn_run (o := ⟨some 36, _, _, _, _, _⟩) (by rfl) (.tmp 30) (.tmp 35) 173 (by rfl) _ _ HRUN.out ?_
                  refine hK _ _ ?_
                  clear hK K
                  refine wpAnyIn_ready (rs := [7]) (by kernel_rfl) (by simp) ?_
                  refine AllReadyIn.cons rfl (fun K hK => ?_) ?_
                  · go_simp
                    refine hK _ _ ?_
                    clear hK K
                    refine wpAnyIn_done (by kernel_rfl) ?_ _
                    gi_wp2
                    exact split_next' HXS.out HAE.out HI.out HX1.out HX2.out hn HQD.out HPD.out HOV.out (by omega) (by omega) (Nat.le_refl _) (by omega) HPL3.out HK3'.out HK4'.out HB3'.out HSZ3.out HSM3.out _
                  exact AllReadyIn.nil
                exact AllReadyIn.nil
              exact AllReadyIn.nil
            refine AllReadyIn.cons rfl (fun K hK => ?_) ?_
            · go_simp
              refine hK _ _ ?_
              clear hK K
              refine wpAnyIn_ready (rs := [0]) (by kernel_rfl) (by simp) ?_
              refine AllReadyIn.cons rfl (fun K hK => ?_) ?_
              · go_simp
                refine hK _ _ ?_
                clear hK K
                refine wpAnyIn_ready (rs := [6]) (by kernel_rfl) (by simp) ?_
                refine AllReadyIn.cons rfl (fun K hK => ?_) ?_
                · refine stepIn_run (o := ⟨some 36, _, _, _, _, _⟩) (by rfl) (.tmp 30) (.tmp 35) 173 (by rfl) _ _ HRUN.out ?_
                  refine hK _ _ ?_
                  clear hK K
                  refine wpAnyIn_ready (rs := [7]) (by kernel_rfl) (by simp) ?_
                  refine AllReadyIn.cons rfl (fun K hK => ?_) ?_
                  · go_simp
                    refine hK _ _ ?_
                    clear hK K
                    refine wpAnyIn_done (by kernel_rfl) ?_ _
                    gi_wp2
                    exact split_next' HXS.out HAE.out HI.out HX1.out HX2.out hn HQD.out HPD.out HOV.out (by omega) (by omega) (Nat.le_refl _) (by omega) HPL3.out HK3'.out HK4'.out HB3'.out HSZ3.out HSM3.out _
                  exact AllReadyIn.nil
                exact AllReadyIn.nil
              exact AllReadyIn.nil
            exact AllReadyIn.nil
          exact AllReadyIn.nil
        exact AllReadyIn.nil
      exact AllReadyIn.nil
    exact AllReadyIn.nil
  case done =>
    rintro D xs W hD rfl hi hK
    obtain ⟨⟨ov, hko, hov⟩, _, _, _, hbw⟩ := hi
    have hlen : (starts n l.length).length = (l.length + n - 1) / n := by simp [starts]
    rw [hlen, splitL_all (by omega)] at hov
    have HOV := Lib.hid hov
    have HBW := Lib.hid hbw
    have HKD := Lib.hid hK
    have c1 := hko.cell 0
    obtain ⟨oa, oc, rfl⟩ := hov.form
    clear hlen hov hbw hK hko
    have hD2 : w.heap.size ≤ D := Nat.le_trans HB0.out.size hD
    gi_wp2
    refine ⟨by simp, .inl ⟨_, _, rfl, run_takeDeferred HKD.out, ?_⟩⟩
    refine ⟨_, results_tmp rfl _ _ _, ⟨_, rfl, ?_, ?_⟩⟩
    · exact HOV.out.own (B' := 0) (put_grown _) (fun r e => by injection e with e; subst e; exact ⟨Nat.zero_le _, _, HKD.out, rfl⟩)
    · exact HBW.out.grown (put_grown _) HBW.out.size (fun k e => by injection e with e; subst e; exact hD2)
end Go.Proofs.YtcfjcoockklkeaaDoor
