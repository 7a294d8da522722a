/-
  strings.Builder: WriteByte, WriteString, String. Conditions: the new length's bytes.
-/
import Derived.Test.YtcfjcoockklkeaaDoorW3
namespace Go.Proofs.YtcfjcoockklkeaaDoor
open Go.RowKit

theorem owns_lt {w : World} {B : Nat} {e : TypeId} {v : Value} {n : Nat} {xs : List Value} (h : w.ownsRow B e 1 v n xs) : ∀ k, v.ownBlock = some k → B ≤ k ∧ k < w.heap.size := fun k hk => h.lt k hk
theorem owns_form {w : World} {B : Nat} {e : TypeId} {v : Value} {n : Nat} {xs : List Value} (h : w.ownsRow B e 1 v n xs) : ∃ a n' c, v = .slice a n' c := by
  rcases h.2 with ⟨hv, _⟩ | ⟨g, cap, cur, hv, _⟩
  · exact ⟨_, _, _, hv⟩
  · exact ⟨_, _, _, hv⟩
theorem copyCheck_any (B b : Nat) (v : Value) (l : List UInt8) (w : World) (h : Bld w B b v l) :
    Calls Tryd.prog 120 #[.pointer (some ⟨b, 0, none⟩)] w fun e w' => e = .returned (.tuple #[]) ∧ Bld w' B b v l ∧ Wrt w w' B b v v ∧ Blk w' b 142 #[.pointer (some ⟨b, 0, none⟩), v] := by
  obtain ⟨hB, ⟨p, hp, hk⟩, ho, hne⟩ := h
  rcases hp with rfl | rfl
  · refine (copyCheck_fresh b v w hk).mono ?_
    rintro e w' ⟨rfl, rfl⟩
    have hk2 : Blk (w.setCell ⟨b, 0, none⟩ (.pointer (some ⟨b, 0, none⟩))) b 142 #[.pointer (some ⟨b, 0, none⟩), v] := hk.set 0 _
    refine ⟨rfl, ⟨hB, ⟨_, .inr rfl, hk2⟩, ?_, hne⟩, ⟨(Below.refl _ _).setCell (p := ⟨b, 0, none⟩) hB _, by simp [World.setCell], fun k _ hkb _ => Below.heap_setCell _ _ _ _ hkb, .inl rfl⟩, hk2⟩
    exact ho.kept (row := some b) ⟨rfl, rfl, rfl, by simp [World.setCell], fun k _ hk => Below.heap_setCell _ _ _ _ (fun e => hk (by simp [e]))⟩ (Or.inr hne)
  · refine (copyCheck_used b v w hk).mono ?_
    rintro e w' ⟨rfl, rfl⟩
    exact ⟨rfl, ⟨hB, ⟨_, .inr rfl, hk⟩, ho, hne⟩, ⟨Below.refl _ _, Nat.le_refl _, fun _ _ _ _ => rfl, .inl rfl⟩, hk⟩
theorem Bld.put {w : World} {B b : Nat} {v v' : Value} {l : List UInt8} (hB : B ≤ b) (hk : Blk w b 142 #[.pointer (some ⟨b, 0, none⟩), v]) (ho : w.ownsRow B 5 1 v' l.length (Lib.byteCells l)) :
    Bld (w.setCell ⟨b, 1, none⟩ v') B b v' l := by
  have hne : v'.ownBlock ≠ some b := Lib.ownBlock_ne ho hk (by decide)
  exact ⟨hB, ⟨_, .inr rfl, hk.set 1 _⟩, ho.kept (row := some b) ⟨rfl, rfl, rfl, by simp [World.setCell], fun k _ hk => Below.heap_setCell _ _ _ _ (fun e => hk (by simp [e]))⟩ (Or.inr hne), hne⟩
theorem wrt_put {w w1 w2 : World} {B b : Nat} {v v' : Value} (h : Wrt w w1 B b v v) (hB : B ≤ b) (hlt : ∀ k, v.ownBlock = some k → B ≤ k ∧ k < w1.heap.size) (hBw : B ≤ w.heap.size) (hg : w1.grownBy w2 v.ownBlock) (hr : v'.ownBlock = v.ownBlock ∨ ∃ k, v'.ownBlock = some k ∧ w1.heap.size ≤ k) :
    Wrt w (w2.setCell ⟨b, 1, none⟩ v') B b v v' := by
  refine h.trans ⟨((Below.refl _ _).grown hg (Nat.le_trans hBw h.size) (fun k hk => (hlt k hk).1)).setCell (p := ⟨b, 1, none⟩) hB _, ?_, fun k hk hkb hkv => ?_, hr⟩
  · have := hg.size
    simpa [World.setCell] using this
  · exact (Below.heap_setCell _ _ _ _ hkb).trans (hg.block k hk (fun e => hkv e.symm))
/-- where an append of a string lies -/
theorem str_at {w w' : World} {B : Nat} {ty : TypeId} {v v' : Value} {n : Nat} {xs : List Value} (hown : w.ownsRow B 5 1 v n xs) (s : ByteArray) (hb : n + s.size ≤ 140737488355328)
    (h : (Builtin.append_ #[44, 9] ty #[v, .string s]).run Tryd.prog w = .ok v' w') : v'.ownBlock = v.ownBlock ∨ ∃ k, v'.ownBlock = some k ∧ w.heap.size ≤ k := by
  obtain ⟨i0, hi, hz0, hz1, hz2⟩ := info_parts byte_info
  rcases hown.2 with ⟨rfl, rfl⟩ | ⟨g, cap, cur, rfl, hbg, hg, hnc, hcm, hcs, htake⟩
  · by_cases h0 : s.size = 0
    · have hf := Lib.run_firstCells_string (P := Tryd.prog) w 1 s
      rw [h0] at hf
      have : (Builtin.append_ #[44, 9] ty #[.slice none 0 0, .string s]).run Tryd.prog w = .ok (.slice none 0 0) w := by
        simp [Builtin.append_, run_underlying Tryd.underlying44, run_underlying Tryd.underlying9, sizeOf, typeInfo, hi, hz1, Builtin.lenOf, h0, hf]
      rw [this] at h
      injection h with h _
      exact .inl (by rw [← h])
    · have hr := run_append_nil_string (P := Tryd.prog) w 44 9 ty 5 i0 (.int .u8 0) Tryd.underlying44 Tryd.underlying9 hi hz0 s (by omega) (by omega) (by rw [hz2]; omega)
      rw [hr] at h
      injection h with h _
      exact .inr ⟨w.heap.size, by rw [← h]; rfl, Nat.le_refl _⟩
  · have hcs' : cur.size = cap := by simpa using hcs
    by_cases hroom : n + s.size ≤ cap
    · have hr := Lib.run_append_room_string (P := Tryd.prog) w 44 9 ty 5 i0 Tryd.underlying44 Tryd.underlying9 hi hz1 g n cap cur hg s hroom (by omega)
      rw [hr] at h
      injection h with h _
      exact .inl (by rw [← h]; rfl)
    · have hxl : xs.length = n := by simpa using hown.1
      have holds : ∀ j u, xs[j]? = some u → w.cell? ((⟨g, 0, none⟩ : Addr).add j) = some u := hown.cells (g := g) rfl
      have hr := Lib.run_append_grow_string (P := Tryd.prog) w 44 9 ty 5 i0 (.int .u8 0) Tryd.underlying44 Tryd.underlying9 hi hz0 ⟨g, 0, none⟩ n cap xs (by rw [hz1]; simpa using hxl) holds s (by omega) (by omega) (by rw [hz2]; exact growslice_fits (by omega) (by omega))
      rw [hr] at h
      injection h with h _
      exact .inr ⟨w.heap.size, by rw [← h]; rfl, Nat.le_refl _⟩
/-- append of a string, and where it lies -/
theorem wpList_str_at {w : World} {ops : Array Oper} {rest : List Oper} {o : Oper} {a : Act} {Q : Exit → Act → World → Prop} (hgd : o.guard = none) (sl x : Operand)
    (ho : o.op = .call { callee := .builtin .append, args := #[sl, x], argTypes := #[44, 9] })
    (B : Nat) (v : Value) (n : Nat) (xs : List Value) (hs : a.eval sl = v) (hown : w.ownsRow B 5 1 v n xs) (s : ByteArray) (hx : a.eval x = .string s)
    (hbytes : n + s.size ≤ 140737488355328) (hbase : B ≤ w.heap.size)
    (h : ∀ v' w', w'.ownsRow B 5 1 v' (n + s.size) (xs ++ Lib.strCells s) → w.grownBy w' v.ownBlock → (v'.ownBlock = v.ownBlock ∨ ∃ k, v'.ownBlock = some k ∧ w.heap.size ≤ k) → wpList Tryd.prog ops Q rest (a.put o.dst v') w') : wpList Tryd.prog ops Q (o :: rest) a w := by
  obtain ⟨i0, hi, hz0, hz1, hz2⟩ := info_parts byte_info
  refine wpList_plain hgd fun K hK => ?_
  obtain ⟨v', w', hr, h2, h3, h4⟩ := Lib.run_append_own_string (P := Tryd.prog) w B 44 9 o.type 5 i0 Tryd.underlying44 Tryd.underlying9 hi hz0 hz1 hz2 v n xs hown s (by unfold maxLen; omega) hbytes hbase
  have hat := str_at hown s hbytes hr
  unfold Oper.wp execOp
  simp only [ho, resolve, invoke, builtin, Sem.run_bind, Sem.run_pure, Result.andThen_ok, List.map_toArray, List.map_cons, List.map_nil, hs, hx, hr]
  exact hK _ _ (h v' w' h2 h3 hat)
/-- What a write leaves. -/
def Wrote (w : World) (B b : Nat) (v : Value) (l : List UInt8) (w' : World) : Prop := ∃ v', Bld w' B b v' l ∧ Wrt w w' B b v v'

set_option maxHeartbeats 2000000 in
set_option maxRecDepth 100000 in
theorem WriteString_any (B b : Nat) (v : Value) (l : List UInt8) (s : ByteArray) (w : World) (h : Bld w B b v l) (hn : l.length + s.size ≤ 140737488355328) (hBw : B ≤ w.heap.size) :
    Calls Tryd.prog 87 #[.pointer (some ⟨b, 0, none⟩), .string s] w fun e w' => e = .returned (.tuple #[.int .i64 s.size, .nilIface]) ∧ Wrote w B b v (l ++ s.data.toList) w' := by
  obtain ⟨i0, hi, hz0, hz1, hz2⟩ := info_parts byte_info
  have HN := Lib.hid hn
  have HBW := Lib.hid hBw
  have HCC := Lib.hid (copyCheck_any B b v l w h)
  have HB0 := Lib.hid h.1
  have HS9 : Hid ((s.size : Int) ≤ 140737488355328) := by show _ ≤ _; omega
  clear h hn hBw
  go_enter Tryd.func87, Tryd.ntmps87
  go_wp2_with (first
    | (go_at_call 120; refine HCC.out.mono ?_; rintro e w1 ⟨rfl, hbl, hw, hk⟩; have HBL := Lib.hid hbl; have HW := Lib.hid hw; have c1 : w1.cell? ⟨b, 1, none⟩ = some v := hk.cell 1; have HK := Lib.hid hk; have HOW := Lib.hid hbl.2.2.1; clear hbl hw hk)
    | (at_builtin; refine wpList_str_at rfl (.tmp 12) (.tmp 13) rfl B v l.length _ rfl HOW.out s rfl HN.out (Nat.le_trans HBW.out HW.out.size) ?_; intro v' w2 ho2 hg2 hat; have HO2 := Lib.hid ho2; have HG2 := Lib.hid hg2; have HAT := Lib.hid hat; clear ho2 hg2 hat
       have hk2 : Blk w2 b 142 #[.pointer (some ⟨b, 0, none⟩), v] := HK.out.grown HG2.out (fun e => HBL.out.2.2.2 e.symm)
       have d1 := hk2.cell 1
       have f1 := hk2.free 1
       have HK2 := Lib.hid hk2
       clear hk2 c1
       obtain ⟨ao, n', cap, rfl⟩ := owns_form HO2.out))
  go_ret2
  refine ⟨rfl, _, Bld.put HB0.out HK2.out ?_, wrt_put HW.out HB0.out (owns_lt HOW.out) HBW.out HG2.out HAT.out⟩
  have e := HO2.out
  rw [Lib.strCells_eq, ← Lib.byteCells_append] at e
  rw [List.length_append]
  simpa using e
set_option maxHeartbeats 2000000 in
set_option maxRecDepth 100000 in
theorem WriteByte_any (B b : Nat) (v : Value) (l : List UInt8) (c : UInt8) (w : World) (h : Bld w B b v l) (hn : l.length + 1 ≤ 140737488355328) (hBw : B ≤ w.heap.size) :
    Calls Tryd.prog 119 #[.pointer (some ⟨b, 0, none⟩), .int .u8 c.toNat] w fun e w' => e = .returned .nilIface ∧ Wrote w B b v (l ++ [c]) w' := by
  obtain ⟨i0, hi, hz0, hz1, hz2⟩ := info_parts byte_info
  have HN := Lib.hid hn
  have HBW := Lib.hid hBw
  have HCC := Lib.hid (copyCheck_any B b v l w h)
  have HB0 := Lib.hid h.1
  clear h hn hBw
  go_enter Tryd.func119, Tryd.ntmps119
  go_wp2_with (first
    | (go_at_call 120; refine HCC.out.mono ?_; rintro e w1 ⟨rfl, hbl, hw, hk⟩; have HBL := Lib.hid hbl; have HW := Lib.hid hw; have c1 : w1.cell? ⟨b, 1, none⟩ = some v := hk.cell 1; have HK := Lib.hid hk; have HOW := Lib.hid hbl.2.2.1; clear hbl hw hk)
    | (at_builtin; refine wpList_append_own_at _ rfl (.tmp 11) (.tmp 13) 44 rfl B 5 i0 (.int .u8 0) 1 1 Tryd.underlying44 hi hz0 hz1 hz2 rfl (by decide) v l.length _ rfl (HOW.out.alloc _) ⟨w1.heap.size, 0, none⟩ 1 1 [.int .u8 c.toNat] rfl rfl (cell_one_new _ _ _) (by simp [Value.oneCell']) (by unfold maxLen; have := HN.out; omega) (by have := HN.out; omega) (by have := HW.out.size; have := HBW.out; simp; omega) ?_
       intro v' w2 ho2 hg2 _ hat; have HO2 := Lib.hid ho2; have HG2 := Lib.hid (grown_step (World.grownBy_alloc w1 _ _) hg2); have HAT : Hid (v'.ownBlock = v.ownBlock ∨ ∃ k, v'.ownBlock = some k ∧ w1.heap.size ≤ k) := hat.imp id (fun e => ⟨_, e, by simp⟩); clear ho2 hg2 hat
       have hk2 : Blk w2 b 142 #[.pointer (some ⟨b, 0, none⟩), v] := HK.out.grown HG2.out (fun e => HBL.out.2.2.2 e.symm)
       have d1 := hk2.cell 1
       have f1 := hk2.free 1
       have HK2 := Lib.hid hk2
       clear hk2 c1
       obtain ⟨ao, n', cap, rfl⟩ := owns_form HO2.out))
  go_ret
  refine ⟨rfl, _, Bld.put HB0.out HK2.out ?_, wrt_put HW.out HB0.out (owns_lt HOW.out) HBW.out HG2.out HAT.out⟩
  have e := HO2.out
  rw [show Lib.byteCells l ++ [Value.int IntKind.u8 (c.toNat : Int)] = Lib.byteCells (l ++ [c]) by rw [Lib.byteCells_append]; rfl] at e
  rw [List.length_append]
  exact e
/-- the bytes in a builder of the call's own -/
theorem String_any (B b : Nat) (v : Value) (l : List UInt8) (w : World) (h : Bld w B b v l) (hBw : B ≤ w.heap.size) :
    Calls Tryd.prog 88 #[.pointer (some ⟨b, 0, none⟩)] w fun e w' => e = .returned (.string ⟨l.toArray⟩) ∧ Below B w w' := by
  obtain ⟨hB, ⟨p, hp, hk⟩, ho, hne⟩ := h
  rw [← Lib.byteCells_length l] at ho
  rcases hp with rfl | rfl
  · exact Tryd.Builder_String_any B b l w (.inl ⟨hB, v, hk, ho, hne⟩) hBw
  · exact Tryd.Builder_String_any B b l w (.inr ⟨hB, v, hk, ho, hne⟩) hBw
end Go.Proofs.YtcfjcoockklkeaaDoor
