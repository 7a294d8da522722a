/-
  table.word, named. Conditions: sizes; the library's table as its initialiser lays it.
-/
import Derived.Test.YtlepicdjnbbndaaGreatDoorT5
namespace Go.Proofs.YtlepicdjnbbndaaGreatDoor
open Go.RowKit Go.Shelf

/-- the operand with a name, or in brackets -/
def wordF (s : List UInt8) : Option Opd :=
  if Lib.hasPrefix s [40] = true then ((namedF ((Lib.trimSuffix (Lib.trimPrefix s [40]) [41]).map up)).head?).map (fun o => ⟨4, if o.kind = 3 then o.reg else 8, 0⟩) else (namedF (s.map up)).head?
def Opd.val (o : Opd) : Value := .agg #[.int .i64 o.kind, .int .i64 o.reg, .int .i64 o.n]
theorem own_head {w : World} {B : Nat} {v : Value} {l : List Opd} {o : Opd} (h : Own opdR w B 87 NoB v l) (ho : l.head? = some o) : ∃ b q n c, v = .slice (some ⟨b, q, none⟩) n c ∧ 0 < n ∧ w.cell? ⟨b, q, none⟩ = some (.int .i64 o.kind) ∧ w.cell? ⟨b, q + 1, none⟩ = some (.int .i64 o.reg) ∧ w.cell? ⟨b, q + 2, none⟩ = some (.int .i64 o.n) := by
  obtain ⟨a, c, rfl, _, _, g⟩ := (h.slR (q := fun _ => True) (fun _ h => h.elim) (fun _ _ => trivial)).opd
  cases l with
  | nil => cases ho
  | cons x l =>
    have ho : x = o := by injection ho
    subst ho
    obtain ⟨b, q, rfl, _, h0, h1, h2⟩ := g 0 x rfl
    rw [Nat.zero_mul, Nat.add_zero] at h0 h1 h2
    exact ⟨b, q, _, c, rfl, Nat.succ_pos _, h0, h1, h2⟩
theorem trimPrefix_len (s p : List UInt8) : (Lib.trimPrefix s p).length ≤ s.length := by
  unfold Lib.trimPrefix
  split
  · rw [List.length_drop]; omega
  · exact Nat.le_refl _
theorem trimSuffix_len (s p : List UInt8) : (Lib.trimSuffix s p).length ≤ s.length := by
  unfold Lib.trimSuffix
  split
  · rw [List.length_take]; omega
  · exact Nat.le_refl _
theorem results_row1 {P : Program} {fn : Func} {p : Tmp} {ty : TypeId} (h : fn.results = #[.cell p ty]) (tmps : Array Value) (w : World) (g : Nat) (t : TypeId) (cs : Array Value) (fr : Nat × Nat) (d : TypeDesc)
    (hp : tmps.getD p undef = .pointer (some ⟨g, 0, none⟩)) (hg : w.heap[g]? = some (.cells cs t fr))
    (hu : P.underlying ty = some d) (hd : (match d with | .struct _ | .array _ _ => true | _ => false) = true) (hi : (P.info? ty).map (·.size) = some cs.size) :
    (results fn tmps).run P w = .ok (.agg cs) w := by
  have hp' : tmps[p]?.getD undef = .pointer (some ⟨g, 0, none⟩) := by simpa using hp
  simp [results, h, hp', asAddr, run_loadVar_row w g t ty cs fr d hg hu hd hi]
set_option maxHeartbeats 4000000 in
set_option maxRecDepth 100000 in
theorem tword_any (s : ByteArray) (o : Opd) (w : World) (h : wordF s.data.toList = some o) (hs : s.size ≤ 1000) :
    Calls Tryz.prog 137 #[.string s] w fun e w' => e = .returned o.val ∧ Below w.heap.size w w' := by
  have hcp := fun W => Tryz.strings_CutPrefix s ⟨#[40]⟩ W
  have hsz : s.data.toList.length ≤ 1000 := by simpa using hs
  have HF := Lib.hid (Blk.new w 87 #[.int .i64 0, .int .i64 0, .int .i64 0])
  have hal := (Below.refl w.heap.size w).alloc (Nat.le_refl _) (.cells #[.int .i64 0, .int .i64 0, .int .i64 0] 87)
  have HAL := Lib.hid hal
  rw [show (⟨#[40]⟩ : ByteArray).data.toList = [40] from rfl] at hcp
  have HCP := Lib.hid hcp
  unfold wordF at h
  by_cases hp : Lib.hasPrefix s.data.toList [40] = true
  · rw [if_pos hp] at h
    rw [hp] at HCP
    have htp : (Lib.trimPrefix s.data.toList [40]).length ≤ 1000 := Nat.le_trans (trimPrefix_len _ _) hsz
    generalize Lib.trimPrefix s.data.toList [40] = inner at *
    obtain ⟨x, hx, rfl⟩ := Option.map_eq_some_iff.1 h
    have hts := fun W => Tryz.strings_TrimSuffix ⟨inner.toArray⟩ ⟨#[41]⟩ W (by show inner.toArray.size ≤ _; rw [List.size_toArray]; omega)
    rw [show (⟨#[41]⟩ : ByteArray).data.toList = [41] from rfl, show (⟨inner.toArray⟩ : ByteArray).data.toList = inner by simp] at hts
    have htl : (Lib.trimSuffix inner [41]).length ≤ 1000 := Nat.le_trans (trimSuffix_len _ _) htp
    have HTS := Lib.hid hts
    generalize Lib.trimSuffix inner [41] = t at *
    have hnm := fun W => Named_any ⟨t.toArray⟩ W (by show t.toArray.size ≤ _; rw [List.size_toArray]; omega)
    rw [show (⟨t.toArray⟩ : ByteArray).data.toList = t by simp] at hnm
    have HNM := Lib.hid hnm
    have HX := Lib.hid hx
    clear hcp hts hnm h hx hs hsz htp htl hp hal
    obtain ⟨xk, xr, xn⟩ := x
    by_cases hk : xk = 3
    · subst hk
      show Calls _ _ _ _ fun e w' => e = .returned (Opd.val ⟨4, xr, 0⟩) ∧ _
      go_enter Tryz.func137, Tryz.ntmps137
      go_wp2_with (first
        | (go_at_call 172; refine (HCP.out _).mono ?_; rintro e w' ⟨rfl, rfl⟩)
        | (go_at_call 94; refine (HTS.out _).mono ?_; rintro e w' ⟨rfl, rfl⟩)
        | (go_at_call 173; refine (HNM.out _).mono ?_; rintro e w2 ⟨v, rfl, ho, hb⟩; obtain ⟨nb, nq, nn, nc, rfl, hn0, e0, e1, e2⟩ := own_head ho HX.out; have HB2 := Lib.hid (HAL.out.trans (hb.mono HAL.out.size)); obtain ⟨z0, z1, z2, y0, y1, y2⟩ := ((HF.out.below hb HF.out.lt).alloc (.cells #[.int .i64 3, .int .i64 xr, .int .i64 xn] 87)).three; have HKX := Lib.hid (HF.out.below hb HF.out.lt); clear ho hb))
      refine bodyPost_ret (results_row1 rfl _ _ w.heap.size 87 #[.int .i64 4, .int .i64 xr, .int .i64 0] (0, 0) _ rfl (show Blk _ w.heap.size 87 #[.int .i64 4, .int .i64 xr, .int .i64 0] from (((HKX.out.alloc (.cells #[.int .i64 3, .int .i64 xr, .int .i64 xn] 87)).set 0 _).set 1 _).set 2 _) Tryz.underlying87 rfl (by kernel_rfl)) rfl ⟨rfl, ?_⟩
      exact (((HB2.out.alloc HB2.out.size _).setCell (Nat.le_refl _) _).setCell (Nat.le_refl _) _).setCell (Nat.le_refl _) _
    · have hk2 : (xk == 3) = false := by rw [beq_eq_false_iff_ne]; exact hk
      rw [show (if (Opd.mk xk xr xn).kind = 3 then (Opd.mk xk xr xn).reg else 8) = 8 from if_neg hk]
      go_enter Tryz.func137, Tryz.ntmps137
      go_wp2_with (first
        | (go_at_call 172; refine (HCP.out _).mono ?_; rintro e w' ⟨rfl, rfl⟩)
        | (go_at_call 94; refine (HTS.out _).mono ?_; rintro e w' ⟨rfl, rfl⟩)
        | (go_at_call 173; refine (HNM.out _).mono ?_; rintro e w2 ⟨v, rfl, ho, hb⟩; obtain ⟨nb, nq, nn, nc, rfl, hn0, e0, e1, e2⟩ := own_head ho HX.out; have HB2 := Lib.hid (HAL.out.trans (hb.mono HAL.out.size)); obtain ⟨z0, z1, z2, y0, y1, y2⟩ := ((HF.out.below hb HF.out.lt).alloc (.cells #[.int .i64 xk, .int .i64 xr, .int .i64 xn] 87)).three; have HKX := Lib.hid (HF.out.below hb HF.out.lt); clear ho hb))
      refine bodyPost_ret (results_row1 rfl _ _ w.heap.size 87 #[.int .i64 4, .int .i64 8, .int .i64 0] (0, 0) _ rfl (show Blk _ w.heap.size 87 #[.int .i64 4, .int .i64 8, .int .i64 0] from (((HKX.out.alloc (.cells #[.int .i64 xk, .int .i64 xr, .int .i64 xn] 87)).set 0 _).set 1 _).set 2 _) Tryz.underlying87 rfl (by kernel_rfl)) rfl ⟨rfl, ?_⟩
      exact (((HB2.out.alloc HB2.out.size _).setCell (Nat.le_refl _) _).setCell (Nat.le_refl _) _).setCell (Nat.le_refl _) _
  · have hp : Lib.hasPrefix s.data.toList [40] = false := by simpa using hp
    rw [if_neg (by rw [hp]; exact Bool.false_ne_true)] at h
    rw [hp] at HCP
    have HNM := Lib.hid (fun W => Named_any s W (by omega))
    have HX := Lib.hid h
    clear hcp h hs hsz hp hal
    generalize (⟨(Lib.trimPrefix s.data.toList [40]).toArray⟩ : ByteArray) = inner at *
    go_enter Tryz.func137, Tryz.ntmps137
    go_wp2_with (first
      | (go_at_call 172; refine (HCP.out _).mono ?_; rintro e w' ⟨rfl, rfl⟩)
      | (go_at_call 173; refine (HNM.out _).mono ?_; rintro e w2 ⟨v, rfl, ho, hb⟩; obtain ⟨nb, nq, nn, nc, rfl, hn0, e0, e1, e2⟩ := own_head ho HX.out; have HB2 := Lib.hid (HAL.out.trans (hb.mono HAL.out.size)); obtain ⟨z0, z1, z2, y0, y1, y2⟩ := (HF.out.below hb HF.out.lt).three; have HKX := Lib.hid (HF.out.below hb HF.out.lt); clear ho hb))
    refine bodyPost_ret (results_row1 rfl _ _ w.heap.size 87 #[.int .i64 o.kind, .int .i64 o.reg, .int .i64 o.n] (0, 0) _ rfl (show Blk _ w.heap.size 87 #[.int .i64 o.kind, .int .i64 o.reg, .int .i64 o.n] from ((HKX.out.set 0 _).set 1 _).set 2 _) Tryz.underlying87 rfl (by kernel_rfl)) rfl ⟨rfl, ?_⟩
    exact ((HB2.out.setCell (Nat.le_refl _) _).setCell (Nat.le_refl _) _).setCell (Nat.le_refl _) _
end Go.Proofs.YtlepicdjnbbndaaGreatDoor
