/-
  record.Print. Conditions: none.
-/
import Derived.Test.YtcfjcoockklkeaaDoorW4
namespace Go.Proofs.YtcfjcoockklkeaaDoor
open Go.RowKit

section
variable {P : Program} {α : Type} {n : Nat} {enc : α → List Value} {h0 : ∀ x, (enc x).length = n} {h1 : ∀ x, ∀ u ∈ enc x, u.oneCell' = true}
/-- What one more element leaves, and where. -/
def PushedA (R : Rep α) (w : World) (B : Nat) (e : TypeId) (row : Option Nat) (zs : List α) (v' : Value) (w' : World) : Prop := Own R w' B e NoB v' zs ∧ w.grownBy w' row ∧ (v'.ownBlock = row ∨ ∃ k, v'.ownBlock = some k ∧ w.heap.size ≤ k)
theorem Own.pushedA {w : World} {B bytes : Nat} {t ty e : TypeId} {v : Value} {xs : List α} {x : α} (hE : ElT P t e n bytes) (h : Own (Rep.flat n enc h0 h1) w B e NoB v xs) (cs : Array Value) (hcs : cs = (enc x).toArray)
    (hbytes : (xs.length + 1) * bytes ≤ 140737488355328) (hlen : xs.length + 1 ≤ 9223372036854775807) (hB : B ≤ w.heap.size) :
    ∃ a c w', (Builtin.append_ #[t, t] ty #[v, .slice (some ⟨w.heap.size, 0, none⟩) 1 1]).run P (w.alloc (.cells cs e)) = .ok (.slice a (xs.length + 1) c) w' ∧ PushedA (Rep.flat n enc h0 h1) w B e v.ownBlock (xs ++ [x]) (.slice a (xs.length + 1) c) w' := by
  subst hcs
  have hlt := h.lt
  obtain ⟨v', w', hrun, ho, hg, hat⟩ := run_append_R (P := P) (R := Rep.flat n enc h0 h1) (w := w.alloc (.cells (enc x).toArray e)) B t ty e bytes hE (p := NoB) (q := fun k => NoB k ∨ k = w.heap.size) (v := v)
    (vx := .slice (some ⟨w.heap.size, 0, none⟩) 1 1) (xs := xs) (ys := [x]) (h.keep (Keep.of_below ((Below.refl _ _).alloc (Nat.le_refl _) _) (fun k hk => by rcases hk with hk | hk; exact hk.elim; exact (hlt k hk).2))) (slR_one (R := Rep.flat n enc h0 h1) (p := NoB) rfl _) (fun _ hk => hk.elim)
    (fun k hk e => by
      rcases hk with hk | rfl
      · exact hk.elim
      · exact absurd (hlt _ e.symm).2 (Nat.lt_irrefl _)) (by simpa using hbytes) (by simpa using hlen) (by simp; omega)
  obtain ⟨a, c, rfl⟩ := ho.form
  have ho' := ho.flat NoB
  rw [List.length_append, List.length_singleton] at hrun ho' hat
  exact ⟨a, c, w', hrun, ho', grown_step (World.grownBy_alloc w _ _) hg, hat.imp id (fun e => ⟨_, e, by simp⟩)⟩
theorem wp_pushA {o : Oper} {a : Act} {w : World} {K : Act → World → Prop} {Q : Exit → Act → World → Prop} (s x : Operand) (t : TypeId)
    (ho : o.op = .call { callee := .builtin .append, args := #[s, x], argTypes := #[t, t] })
    (B : Nat) (e : TypeId) (bytes : Nat) (hE : ElT P t e n bytes) (v : Value) (xs : List α) (y : α) (cs : Array Value) (hs : a.eval s = v) (hxe : a.eval x = .slice (some ⟨w.heap.size, 0, none⟩) 1 1) (hown : Own (Rep.flat n enc h0 h1) w B e NoB v xs)
    (hcs : cs = (enc y).toArray) (hbytes : (xs.length + 1) * bytes ≤ 140737488355328) (hlen : xs.length + 1 ≤ 9223372036854775807) (hB : B ≤ w.heap.size)
    (h : ∀ a' c' w', PushedA (Rep.flat n enc h0 h1) w B e v.ownBlock (xs ++ [y]) (.slice a' (xs.length + 1) c') w' → K (a.put o.dst (.slice a' (xs.length + 1) c')) w') : o.wp P a (w.alloc (.cells cs e)) K Q := by
  obtain ⟨a', c', w', hrun, h2⟩ := hown.pushedA (P := P) (ty := o.type) hE cs hcs hbytes hlen hB
  unfold Oper.wp execOp
  simp only [ho, resolve, invoke, builtin, Sem.run_bind, Sem.run_pure, Result.andThen_ok, List.map_toArray, List.map_cons, List.map_nil, hs, hxe, hrun]
  exact h a' c' w' h2
theorem wpList_pushA {ops : Array Oper} {rest : List Oper} {o : Oper} {a : Act} {w : World} {Q : Exit → Act → World → Prop} (hgd : o.guard = none) (s x : Operand) (t : TypeId)
    (ho : o.op = .call { callee := .builtin .append, args := #[s, x], argTypes := #[t, t] })
    (B : Nat) (e : TypeId) (bytes : Nat) (hE : ElT P t e n bytes) (v : Value) (xs : List α) (y : α) (cs : Array Value) (hs : a.eval s = v) (hxe : a.eval x = .slice (some ⟨w.heap.size, 0, none⟩) 1 1) (hown : Own (Rep.flat n enc h0 h1) w B e NoB v xs)
    (hcs : cs = (enc y).toArray) (hbytes : (xs.length + 1) * bytes ≤ 140737488355328) (hlen : xs.length + 1 ≤ 9223372036854775807) (hB : B ≤ w.heap.size)
    (h : ∀ a' c' w', PushedA (Rep.flat n enc h0 h1) w B e v.ownBlock (xs ++ [y]) (.slice a' (xs.length + 1) c') w' → wpList P ops Q rest (a.put o.dst (.slice a' (xs.length + 1) c')) w') : wpList P ops Q (o :: rest) a (w.alloc (.cells cs e)) :=
  wpList_plain hgd fun _ hK => wp_pushA s x t ho B e bytes hE v xs y cs hs hxe hown hcs hbytes hlen hB fun a' c' w' h2 => hK _ _ (h a' c' w' h2)
end
theorem grown_of_below {w w' : World} (hb : Below w.heap.size w w') (row : Option Nat) : w.grownBy w' row := ⟨hb.os, hb.tape, hb.output, hb.size, fun k hk _ => hb.block k hk⟩
theorem Bld.lt {w : World} {B b : Nat} {v : Value} {l : List UInt8} (h : Bld w B b v l) : b < w.heap.size := by
  obtain ⟨_, ⟨p, _, hk⟩, _⟩ := h
  exact hk.lt
theorem Bld.stay {w w' : World} {B b : Nat} {v : Value} {l : List UInt8} (h : Bld w B b v l) {row : Option Nat} (hg : w.grownBy w' row) (h1 : some b ≠ row) (h2 : v.ownBlock = none ∨ v.ownBlock ≠ row) : Bld w' B b v l := by
  obtain ⟨hB, ⟨p, hp, hk⟩, ho, hne⟩ := h
  exact ⟨hB, ⟨p, hp, hk.grown hg h1⟩, ho.kept hg h2, hne⟩
theorem Bld.below {w w' : World} {B b : Nat} {v : Value} {l : List UInt8} (h : Bld w B b v l) (hb : Below w.heap.size w w') : Bld w' B b v l :=
  h.stay (grown_of_below hb none) (by simp) (by cases v.ownBlock <;> simp)
theorem Bld.new (w : World) (B : Nat) (hB : B ≤ w.heap.size) : Bld (w.alloc (.cells #[.pointer none, .slice none 0 0] 142)) B w.heap.size (.slice none 0 0) [] :=
  ⟨hB, ⟨_, .inl rfl, Blk.new _ _ _⟩, World.ownsRow_nil _ _ _ _, by simp [Value.ownBlock]⟩
/-- a row that a write does not meet -/
theorem Wrt.own {α : Type} {R : Rep α} {w w' : World} {B b B2 : Nat} {v v' r : Value} {e : TypeId} {xs : List α} (h : Wrt w w' B b v v') (ho : Own R w B2 e NoB r xs) (h1 : r.ownBlock ≠ some b) (h2 : ∀ k, r.ownBlock = some k → v.ownBlock ≠ some k) : Own R w' B2 e NoB r xs :=
  ho.keep (fun k hk => by
    rcases hk with hk | hk
    · exact hk.elim
    · exact h.keep k (ho.lt k hk).2 (fun e => h1 (by rw [hk, e])) (h2 k hk))
/-- a row that a builder does not meet -/
def Apart (r : Value) (b : Nat) (v : Value) : Prop := r.ownBlock ≠ some b ∧ ∀ k, r.ownBlock = some k → v.ownBlock ≠ some k
theorem Wrt.apart {α : Type} {R : Rep α} {w w' : World} {B b B2 : Nat} {v v' r : Value} {e : TypeId} {xs : List α} (h : Wrt w w' B b v v') (ho : Own R w B2 e NoB r xs) (ha : Apart r b v) : Apart r b v' := by
  refine ⟨ha.1, fun k hk => ?_⟩
  rcases h.row with e2 | ⟨q, e2, hq⟩
  · rw [e2]; exact ha.2 k hk
  · rw [e2]; intro e3; injection e3 with e3; have := (ho.lt k hk).2; omega
theorem write58 (B b : Nat) (v : Value) (l : List UInt8) (w : World) (h : Bld w B b v l) (hn : l.length + 1 ≤ 140737488355328) (hBw : B ≤ w.heap.size) :
    Calls Tryd.prog 119 #[.pointer (some ⟨b, 0, none⟩), .int .u8 58] w fun e w' => e = .returned .nilIface ∧ Wrote w B b v (l ++ [58]) w' := WriteByte_any B b v l 58 w h hn hBw
theorem hexTxt (x : UInt8) (w : World) : Calls Tryd.prog 46 #[.int .i64 x.toNat, .int .i64 2] w fun e w' => e = .returned (.string ⟨(byteTxt x).toArray⟩) ∧ Below w.heap.size w w' := Hex_any x.toNat 2 w (by have := x.toNat_lt; omega) (by omega)
/-- What stands while Print writes the digits. -/
structure PrH (w0 : World) (B bB : Nat) (vr : Value) (M : List UInt8) (k : Nat) (vb : Value) (wr : World) : Prop where
  bld : Bld wr w0.heap.size bB vb (58 :: (M.take k).flatMap byteTxt)
  own : Own byteR wr B 5 NoB vr M
  apart : Apart vr bB vb
  below : Below w0.heap.size w0 wr
theorem PrH.next {w0 wr w2 w3 : World} {B bB k : Nat} {vr vb vb' : Value} {M : List UInt8} (h : PrH w0 B bB vr M k vb wr) (hk : k < M.length) (hb : Below wr.heap.size wr w2) (h2 : Bld w3 w0.heap.size bB vb' ((58 :: (M.take k).flatMap byteTxt) ++ byteTxt M[k])) (hw : Wrt w2 w3 w0.heap.size bB vb vb') : PrH w0 B bB vr M (k + 1) vb' w3 := by
  have ho2 : Own byteR w2 B 5 NoB vr M := h.own.keep (Keep.of_below hb (fun j hj => by rcases hj with hj | hj; exact hj.elim; exact (h.own.lt j hj).2))
  refine ⟨?_, hw.own ho2 h.apart.1 h.apart.2, hw.apart ho2 h.apart, (h.below.trans (hb.mono h.below.size)).trans hw.below⟩
  rw [List.take_succ_eq_append_getElem hk, List.flatMap_append]
  simpa using h2
theorem flat_len (l : List UInt8) : (l.flatMap byteTxt).length = 2 * l.length := by
  induction l with
  | nil => rfl
  | cons x l ih => rw [List.flatMap_cons, List.length_append, ih, byteTxt_len, List.length_cons]; omega
set_option maxHeartbeats 1000000 in
theorem Print_no (t a : Int) (sa : Option Addr) (n c : Nat) (w : World) (h : rightB t a n = false) :
    Calls Tryd.prog 85 #[.agg #[.int .i64 t, .int .i64 a, .slice sa n c]] w fun e w' => e = .returned (.tuple #[.string ⟨#[]⟩, .bool false]) ∧ Below w.heap.size w w' := by
  have HR := Lib.hid (fun W => right_any t a sa n c W)
  rw [h] at HR
  have HB0 : Hid (Below w.heap.size w (w.alloc (.cells #[.int .i64 t, .int .i64 a, .slice sa n c] 46))) := (Below.refl _ w).alloc (Nat.le_refl _) _
  go_enter Tryd.func85, Tryd.ntmps85
  go_wp2_with (go_at_call 117; refine (HR.out _).mono ?_; rintro e w' ⟨rfl, hb⟩; have HB := Lib.hid (HB0.out.trans (hb.mono HB0.out.size)); clear hb)
  go_ret2
  exact ⟨rfl, HB.out⟩

theorem low_four (x y z u : Int) (W : World) (b : Nat) (hb : b = W.heap.size) :
    Calls Tryd.prog 118 #[.slice (some ⟨b, 0, none⟩) 4 4] (W.alloc (.cells #[.int .i64 x, .int .i64 y, .int .i64 z, .int .i64 u] 3)).drew fun e w' => ∃ v', e = .returned v' ∧ Own byteR w' W.heap.size 5 NoB v' [lowB x, lowB y, lowB z, lowB u] ∧ Below W.heap.size W w' := by
  subst hb
  refine (Low_any (fun _ => True) _ [x, y, z, u] _ ((slR_lit W 3 (fun _ => True) [x, y, z, u] #[.int .i64 x, .int .i64 y, .int .i64 z, .int .i64 u] 4 rfl rfl (by simp) (fun _ _ => trivial)).drew) (by simp)).mono ?_
  rintro e w' ⟨v', rfl, ho, hb⟩
  have hle : W.heap.size ≤ (W.alloc (.cells #[.int .i64 x, .int .i64 y, .int .i64 z, .int .i64 u] 3)).drew.heap.size := by simp
  exact ⟨v', rfl, ho.base hle, ((Below.refl _ W).alloc (Nat.le_refl _) _).drew.trans (hb.mono hle)⟩
set_option maxHeartbeats 2000000 in
set_option maxRecDepth 100000 in
theorem Print_yes (t a : Nat) (p : Blocks) (v : Value) (l : List UInt8) (w : World) (h : SlR byteR w p v l) (ht : t ≤ 255) (ha : a ≤ 65535) (hl : l.length ≤ 255) :
    Calls Tryd.prog 85 #[.agg #[.int .i64 t, .int .i64 a, v]] w fun e w' => e = .returned (.tuple #[.string ⟨(recLine t a l).toArray⟩, .bool true]) ∧ Below w.heap.size w w' := by
  obtain ⟨sa, c, rfl, hc1, hc2, _⟩ := h.byte
  have hr : rightB t a l.length = true := by unfold rightB; simp; omega
  have HR := Lib.hid (fun W => right_any t a sa l.length c W)
  rw [hr] at HR
  have HSL := Lib.hid h
  have HL := Lib.hid hl
  have HB0 : Hid (Below w.heap.size w (w.alloc (.cells #[.int .i64 t, .int .i64 a, .slice sa l.length c] 46))) := (Below.refl _ w).alloc (Nat.le_refl _) _
  have HK0 : Hid (Blk (w.alloc (.cells #[.int .i64 t, .int .i64 a, .slice sa l.length c] 46)) w.heap.size 46 #[.int .i64 t, .int .i64 a, .slice sa l.length c]) := Blk.new _ _ _
  have ht0 : (0 : Int) ≤ (t : Int) := by omega
  have ht1 : (t : Int) ≤ 255 := by omega
  have ha0 : (0 : Int) ≤ (a : Int) := by omega
  have ha1 : (a : Int) ≤ 65535 := by omega
  have hl1 : (l.length : Int) ≤ 255 := by omega
  have HEQ : Hid ([lowB l.length, lowB ((a : Int) / 256), lowB a, lowB t] ++ l = recB t a l) := by
    show _ = _
    unfold recB
    rfl
  have HF : Hid (recLine t a l = 58 :: (recB t a l ++ [sum03 (recB t a l)]).flatMap byteTxt) := Lib.hid rfl
  have HRL : Hid ((recB t a l).length ≤ 300) := by
    show _ ≤ _
    unfold recB
    simp only [List.length_cons]
    omega
  rw [HF.out]
  clear h hr hl hc1 hc2 ht ha HF
  generalize recB t a l = R at *
  have HC3 : Hid ((R.length + 1) * 1 ≤ 140737488355328) := by show _ ≤ _; have := HRL.out; omega
  have HC4 : Hid (R.length + 1 ≤ 9223372036854775807) := by show _ ≤ _; have := HRL.out; omega
  have HC5 : Hid (([] : List UInt8).length + 1 ≤ 140737488355328) := by show _ ≤ _; simp
  go_enter Tryd.func85, Tryd.ntmps85
  go_wp2_with (go_at_call 117; refine (HR.out _).mono ?_; rintro e w1 ⟨rfl, hb⟩; have HB := Lib.hid (HB0.out.trans (hb.mono HB0.out.size)); have hk := HK0.out.below hb (by simp); obtain ⟨e0, e1, e2, _, _, _⟩ := hk.three; have hs1 : w.heap.size < w1.heap.size := hk.lt; clear hb hk)
  generalize hn : l.length = n at *
  have HNL := Lib.hid hn
  have HC1 : Hid (([lowB n, lowB ((a : Int) / 256), lowB a, lowB t].length + l.length) * 1 ≤ 140737488355328) := by show (4 + _) * 1 ≤ _; omega
  have HC2 : Hid ([lowB n, lowB ((a : Int) / 256), lowB a, lowB t].length + l.length ≤ 9223372036854775807) := by show 4 + _ ≤ _; omega
  clear hn
  go_region_held3 (fun w' => w'.cell? ⟨w.heap.size, 0, none⟩ = some (.int .i64 t) ∧ w'.cell? ⟨w.heap.size, 1, none⟩ = some (.int .i64 a) ∧ w'.cell? ⟨w.heap.size, 2, none⟩ = some (.slice sa n c)) (go_keep)
    (first
      | (go_at_call 118; refine (low_four (n : Int) ((a : Int) / 256) a t w1 _ rfl).mono ?_; rintro e w2 ⟨v4, rfl, ho, hb⟩; have HO := Lib.hid ho; have HB2 := Lib.hid hb; obtain ⟨a4, c4, rfl⟩ : ∃ a c, v4 = .slice a 4 c := ho.form; have HX : Hid (SlR byteR w2 (fun k => p k ∧ k < w.heap.size) (.slice sa n c) l) := HSL.out.old.below (HB.out.trans (hb.mono HB.out.size)); have HQ : Hid (∀ k, p k ∧ k < w.heap.size → some k ≠ Value.ownBlock (.slice a4 4 c4)) := fun k hk e => absurd (HO.out.lt k e.symm).1 (by have := HB.out.size; omega); have HNB : Hid (some w.heap.size ≠ Value.ownBlock (.slice a4 4 c4)) := fun e => absurd (HO.out.lt _ e.symm).1 (by omega); have HOD : Hid (Own byteR w2 w1.heap.size 5 NoB (.slice a4 4 c4) [lowB n, lowB ((a : Int) / 256), lowB a, lowB t]) := ho; have e0' := (hb.cell (p := ⟨w.heap.size, 0, none⟩) hs1).trans e0; have e1' := (hb.cell (p := ⟨w.heap.size, 1, none⟩) hs1).trans e1; have e2' := (hb.cell (p := ⟨w.heap.size, 2, none⟩) hs1).trans e2; clear ho hb)
      | ((refine step_append_R (o := ⟨some 25, _, _, _, _, _⟩) _ (by rfl) (.tmp 22) (.tmp 24) 44 (by rfl) w1.heap.size 5 1 elByte NoB (fun k => p k ∧ k < w.heap.size) (.slice a4 4 c4) (.slice sa n c) _ l (by rfl) (by rfl) HOD.out HX.out (fun _ h => h.elim) HQ.out HC1.out HC2.out HB2.out.size ?_); intro v5 w3 hap; rw [HEQ.out] at hap; have HAP := Lib.hid hap; have e0'' : w3.cell? ⟨w.heap.size, 0, none⟩ = some (.int .i64 t) := hap.2.1.cell (a := ⟨w.heap.size, 0, none⟩) e0' HNB.out; have e1'' : w3.cell? ⟨w.heap.size, 1, none⟩ = some (.int .i64 a) := hap.2.1.cell (a := ⟨w.heap.size, 1, none⟩) e1' HNB.out; have e2'' : w3.cell? ⟨w.heap.size, 2, none⟩ = some (.slice sa n c) := hap.2.1.cell (a := ⟨w.heap.size, 2, none⟩) e2' HNB.out; obtain ⟨a5, c5, rfl⟩ := hap.1.form; clear hap))
  have HB3 : Hid (Below w.heap.size w w3) := (HB.out.trans (HB2.out.mono HB.out.size)).grown HAP.out.2.1 (Nat.le_trans HB.out.size HB2.out.size) (fun k hk => by have := (HOD.out.lt k hk).1; have := HB.out.size; omega)
  have HO3 : Hid (Own byteR (w3.alloc (.cells #[.pointer none, .slice none 0 0] 142)) w1.heap.size 5 NoB (.slice a5 R.length c5) R) := (HAP.out.1.flat NoB).keep (Keep.alloc (fun j hj => by rcases hj with hj | hj; exact hj.elim; exact (HAP.out.1.lt j hj).2) _)
  have HNW : Hid (Bld (w3.alloc (.cells #[.pointer none, .slice none 0 0] 142)) w.heap.size w3.heap.size (.slice none 0 0) []) := Bld.new w3 _ HB3.out.size
  have HB3a : Hid (w.heap.size ≤ (w3.alloc (.cells #[.pointer none, .slice none 0 0] 142)).heap.size) := by show _ ≤ _; have := HB3.out.size; simp; omega
  have HAPT : Hid (Apart (.slice a5 R.length c5) w3.heap.size (.slice none 0 0)) := ⟨fun e => absurd (HAP.out.1.lt _ e).2 (Nat.lt_irrefl _), fun k _ => by simp [Value.ownBlock]⟩
  have HB3b : Hid (Below w.heap.size w (w3.alloc (.cells #[.pointer none, .slice none 0 0] 142))) := HB3.out.alloc HB3.out.size _
  clear e0 e1 e2 e0' e1' e2' e0'' e1'' e2''
  go_wp2_with (first
    | (go_at_call 119; refine (write58 _ _ _ _ _ HNW.out HC5.out HB3a.out).mono ?_; rintro e w4 ⟨rfl, v4, hbl, hwt⟩; have HBL := Lib.hid hbl; have HO4 := Lib.hid (hwt.own HO3.out HAPT.out.1 HAPT.out.2); have HA4 := Lib.hid (hwt.apart HO3.out HAPT.out); have HB4 := Lib.hid (HB3b.out.trans hwt.below); have HS4 : Hid (w1.heap.size ≤ w4.heap.size) := Nat.le_trans HB2.out.size (Nat.le_trans HAP.out.2.1.size (Nat.le_trans (by simp) hwt.size)); clear hbl hwt)
    | (go_at_call 62; refine (Sum_any _ _ R _ (HO4.out.slR (q := fun k => w1.heap.size ≤ k) (fun _ h => h.elim) (fun _ h => h))).mono ?_; rintro e w5 ⟨rfl, hb⟩; have HBL5 := Lib.hid (HBL.out.below hb); have HO5 : Hid (Own byteR w5 w1.heap.size 5 NoB (.slice a5 R.length c5) R) := HO4.out.keep (Keep.of_below hb (fun j hj => by rcases hj with hj | hj; exact hj.elim; exact (HO4.out.lt j hj).2)); have HB5 := Lib.hid (HB4.out.trans (hb.mono HB4.out.size)); have HS5 : Hid (w1.heap.size ≤ w5.heap.size) := Nat.le_trans HS4.out hb.size; clear hb)
    | (at_builtin; refine wpList_pushA rfl (.tmp 27) (.tmp 30) 44 rfl w1.heap.size 5 1 elByte _ R (sum03 R) _ rfl rfl HO5.out rfl HC3.out HC4.out HS5.out ?_; intro a6 c6 w6 hp; have HP := Lib.hid hp; clear hp))
  have HSTART : Hid (PrH w w1.heap.size w3.heap.size (.slice a6 (R.length + 1) c6) (R ++ [sum03 R]) 0 v4 w6) := by
    have hb5 : v4.ownBlock = none ∨ v4.ownBlock ≠ Value.ownBlock (.slice a5 R.length c5) := by
      cases h4 : v4.ownBlock with
      | none => exact .inl rfl
      | some q => exact .inr (fun e => HA4.out.2 q e.symm h4)
    refine ⟨HBL5.out.stay HP.out.2.1 (fun e => HA4.out.1 e.symm) hb5, HP.out.1, ?_, HB5.out.grown HP.out.2.1 HB5.out.size (fun k hk => Nat.le_trans HB.out.size (HO5.out.lt k hk).1)⟩
    have hlt4 : ∀ k, v4.ownBlock = some k → k < w5.heap.size := fun k hk => (HBL5.out.2.2.1.lt k hk).2
    rcases HP.out.2.2 with e | ⟨q, e, hq⟩
    · exact ⟨by rw [e]; exact HA4.out.1, fun k hk => HA4.out.2 k (e.symm.trans hk)⟩
    · exact ⟨by rw [e]; intro e2; injection e2 with e2; have := HBL5.out.lt; omega, fun k hk h4 => by rw [e] at hk; injection hk with hk; have := hlt4 k h4; omega⟩
  have HRN : Hid ((R ++ [sum03 R]).length = R.length + 1) := by show _ = _; simp
  have HRL2 : Hid ((R ++ [sum03 R]).length ≤ 301) := by show _ ≤ _; have := HRL.out; simp; omega
  rw [← HRN.out] at HSTART
  have hri : ((R.length : Int) + 1) = ((R ++ [sum03 R]).length : Int) := by simp
  rw [← HRN.out, hri]
  clear hri
  clear HP HAP HOD HX HQ HEQ HRN HC1 HC2 HC3 HC4 HC5 HB3 HO3 HNW HB3a HB3b HAPT HBL HO4 HA4 HB4 HS4 HBL5 HO5 HB5 HS5 HRL HSL HL HB0 HK0
  generalize hM : R ++ [sum03 R] = M at *
  have HM := Lib.hid hM
  clear hM
  have hM1 : (M.length : Int) ≤ 301 := by have := HRL2.out; omega
  go_loopw [33] (fun i wr => ∃ (k : Nat) (vb : Value), k ≤ M.length ∧ i = .int .i64 k ∧ PrH w w1.heap.size w3.heap.size (.slice a6 M.length c6) M k vb wr) (fun i _ => M.length - (intOf i).toNat)
  case atStart => exact ⟨0, v4, Nat.zero_le _, rfl, HSTART.out⟩
  case round =>
    obtain ⟨k, vb, hk, rfl, hh⟩ := hrel
    have HH := Lib.hid hh
    clear hh
    by_cases hlt : k < M.length
    · obtain ⟨ad, cd, hv, _, _, g⟩ := (HH.out.own.slR (q := fun k => w1.heap.size ≤ k) (fun _ h => h.elim) (fun _ h => h)).byte
      obtain ⟨rfl, _, rfl⟩ : a6 = ad ∧ M.length = M.length ∧ c6 = cd := by injection hv with h1 h2 h3; exact ⟨h1, h2, h3⟩
      obtain ⟨b1, o1, rfl, _, hcell⟩ := g k M[k] (List.getElem?_eq_getElem hlt)
      clear g hv
      have HNX := Lib.hid (fun (w2 w7 : World) (vb' : Value) => HH.out.next (w2 := w2) (w3 := w7) (vb' := vb') hlt)
      have HFL : Hid ((58 :: (M.take k).flatMap byteTxt).length + 2 ≤ 140737488355328) := by
        show _ ≤ _
        have := HRL2.out
        rw [List.length_cons, flat_len, List.length_take]
        omega
      generalize M[k] = x at *
      have hx := x.toNat_lt
      go_wp2_with (first
        | (go_at_call 46; refine (hexTxt x _).mono ?_; rintro e w7 ⟨rfl, hb⟩; have HBX := Lib.hid hb; have HBL7 := Lib.hid (HH.out.bld.below hb); have HS7 : Hid (w.heap.size ≤ w7.heap.size) := Nat.le_trans HH.out.below.size hb.size; clear hb)
        | (go_at_call 87; refine (WriteString_any _ _ vb _ ⟨(byteTxt x).toArray⟩ _ HBL7.out HFL.out HS7.out).mono ?_; rintro e w8 ⟨rfl, v8, hbl, hwt⟩; have HN8 := Lib.hid (HNX.out _ _ _ HBX.out hbl hwt); clear hbl hwt))
      go_roundw
      case rel => exact ⟨k + 1, v8, by omega, by go_num, HN8.out⟩
      case measure => simp [intOf]; omega
    · obtain rfl : k = M.length := by omega
      have hbe := HH.out.bld
      rw [List.take_length] at hbe
      have HBE := Lib.hid hbe
      clear hbe
      have HSZ : Hid (w.heap.size ≤ wr.heap.size) := HH.out.below.size
      go_wp2_with fail
      refine (String_any _ _ _ _ _ HBE.out HSZ.out).mono ?_
      rintro e w9 ⟨rfl, hb⟩
      have HB9 := Lib.hid (HH.out.below.trans hb)
      clear hb
      go_wp2
      go_ret2
      exact ⟨by rw [HM.out]; rfl, HB9.out⟩
end Go.Proofs.YtcfjcoockklkeaaDoor
