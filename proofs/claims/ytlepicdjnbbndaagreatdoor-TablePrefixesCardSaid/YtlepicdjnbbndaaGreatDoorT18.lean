/-
  table.find, walked. Conditions: sizes; the library's table as its initialiser lays it.
-/
import Derived.Test.YtlepicdjnbbndaaGreatDoorT17
namespace Go.Proofs.YtlepicdjnbbndaaGreatDoor
open Go.RowKit Go.Shelf

theorem ite_or {α : Type} {c : Prop} [Decidable c] {a b x : α} (h : (if c then a else b) = x) : a = x ∨ b = x := by
  by_cases hc : c
  · rw [if_pos hc] at h; exact .inl h
  · rw [if_neg hc] at h; exact .inr h
theorem argF_ext {bits : List UInt8} {op : Nat} {s : List UInt8} {o : Opd} {ext : List UInt8} (h : argF bits op s = some (o, ext)) : ext.length ≤ 1 := by
  have hm : ∀ {a : Option Opd}, a.map (·, ([] : List UInt8)) = some (o, ext) → ext.length ≤ 1 := fun h => by rw [(map_two h).1]; exact Nat.zero_le _
  have hs : ∀ {a : Opd} {e : List UInt8}, e.length ≤ 1 → some (a, e) = some (o, ext) → ext.length ≤ 1 := fun hl h => by rw [← (some_two h).2]; exact hl
  unfold argF at h
  iterate 20
    rcases ite_or h with h | h
    · first
        | exact hm h
        | exact hs (by decide) h
  cases h
theorem step_app_run {P : Program} {ops : Array Oper} {o : Oper} {a : Act} {w w' : World} {K : Act → World → Prop} {Q : Exit → Act → World → Prop} {E : Prop} (hgd : o.guard = none) (s x : Operand) (t : TypeId)
    (ho : o.op = .call { callee := .builtin .append, args := #[s, x], argTypes := #[t, t] }) (v vx v' : Value) (hs : a.eval s = v) (hxe : a.eval x = vx)
    (hrun : (Builtin.append_ #[t, t] o.type #[v, vx]).run P w = .ok v' w') (h : K (a.put o.dst v') w') : if Region.wanted o (yielded ops a.tmps) = true then Oper.wp P o a w K Q else E := by
  have hw : Region.wanted o (yielded ops a.tmps) = true := by simp [Region.wanted, hgd]
  rw [if_pos hw]
  unfold Oper.wp execOp
  simp only [ho, resolve, invoke, builtin, Sem.run_bind, Sem.run_pure, Result.andThen_ok, List.map_toArray, List.map_cons, List.map_nil, hs, hxe, hrun]
  exact h
/-- what the walk asks of a text and its rule -/
structure okT (t : List UInt8) (r : RuleV) : Prop where
  size : t.length ≤ 1000
  asc : ∀ b ∈ t, b.toNat < 128
  bits : r.bits.length ≤ 8
  args : ∀ a ∈ r.args, a.length ≤ 1000
  cnt : r.args.length ≤ 8
set_option maxHeartbeats 8000000 in
set_option maxRecDepth 100000 in
theorem find_some (pg : Int) (s : ByteArray) (op : Nat) (t : List UInt8) (r : RuleV) (os : List Opd) (ex : List UInt8) (w : World) (hop : op < 256) (hs : s.size ≤ 1000000) (hl : lookF op (splitC s.data.toList) = some t) (hr : ruleF t = some r) (ha : argsF r.bits op r.args = some (os, ex)) (hok : okT t r) (hT : Spc w) :
    Calls Tryz.prog 45 #[.int .i64 pg, .string s, .int .u8 op] w fun e w' => ∃ v, e = .returned (.tuple #[entVal ⟨pg, op, r.op, os, ex, r.alias⟩ v, .bool true]) ∧ Own opdR w' w.heap.size 87 NoB v os ∧ Below w.heap.size w w' := by
  have hb0 := (Below.refl w.heap.size w).alloc (Nat.le_refl _) (.cells #[.int .i64 0, .int .u8 0, .string ⟨#[]⟩, .slice none 0 0, .string ⟨#[]⟩, .bool false] 27)
  have HB0 := Lib.hid hb0
  have HF0 := Lib.hid (Blk.new w 27 #[.int .i64 0, .int .u8 0, .string ⟨#[]⟩, .slice none 0 0, .string ⟨#[]⟩, .bool false])
  have HLK := Lib.hid (fun W => lookup_any s op hop W hs)
  rw [hl] at HLK
  have HPA := Lib.hid (fun W hT => parse_any ⟨t.toArray⟩ r W (by rw [show (⟨t.toArray⟩ : ByteArray).data.toList = t by simp]; exact hr) (by show t.toArray.size ≤ _; rw [List.size_toArray]; exact hok.size) (by rw [show (⟨t.toArray⟩ : ByteArray).data.toList = t by simp]; exact hok.asc) hT)
  have HT := Lib.hid hT
  have HBT : Hid (r.bits.length ≤ 8) := hok.bits
  have HAS := Lib.hid hok.args
  have HCN := Lib.hid hok.cnt
  have HA := Lib.hid ha
  have HOP := Lib.hid hop
  unfold lookP at HLK
  dsimp only at HLK
  clear hb0 hl hr ha hok hT hs hop
  obtain ⟨rb, ro, ra, ral⟩ := r
  dsimp only at HPA HBT HAS HCN HA
  show Calls _ _ _ _ fun e w' => ∃ v, e = .returned (.tuple #[.agg #[.int .i64 pg, .int .u8 op, .string ⟨ro.toArray⟩, v, .string ⟨ex.toArray⟩, .bool ral], .bool true]) ∧ _
  go_enter Tryz.func45, Tryz.ntmps45
  go_wp2_with (first
    | (go_at_call 68; refine (HLK.out _).mono ?_; rintro e w2 ⟨rfl, hb⟩; have HB2 := Lib.hid (HB0.out.trans (hb.mono HB0.out.size)); have HF2 := Lib.hid (HF0.out.below hb HF0.out.lt); clear hb)
    | (go_at_call 88; refine (HPA.out _ (HT.out.below HB2.out)).mono ?_; rintro e w4 ⟨vr, LS, rfl, hls, hlm, hb⟩; have HB4 := Lib.hid (HB2.out.trans (hb.mono HB2.out.size)); have HF4 := Lib.hid (HF2.out.below hb HF2.out.lt); have HLS := Lib.hid hls.old; have HLM := Lib.hid hlm; obtain ⟨la, lc, rfl⟩ : ∃ a c, vr = .slice a LS.length c := (by obtain ⟨a, c, hv, _⟩ := hls; exact ⟨a, c, hv⟩); clear hls hlm hb))
  have hsz : ((w4.alloc (.cells #[.string ⟨rb.toArray⟩, .string ⟨ro.toArray⟩, .slice la LS.length lc, .bool ral] 127)).alloc (.cells #[.int .i64 pg, .int .u8 op, .string ⟨ro.toArray⟩, .slice none 0 0, .string ⟨#[]⟩, .bool ral, .string ⟨rb.toArray⟩, .string ⟨ro.toArray⟩, .slice la LS.length lc, .bool ral] 131)).heap.size = w4.heap.size + 2 := by rw [World.size_alloc, World.size_alloc]
  have hbk : BK ((w4.alloc (.cells #[.string ⟨rb.toArray⟩, .string ⟨ro.toArray⟩, .slice la LS.length lc, .bool ral] 127)).alloc (.cells #[.int .i64 pg, .int .u8 op, .string ⟨ro.toArray⟩, .slice none 0 0, .string ⟨#[]⟩, .bool ral, .string ⟨rb.toArray⟩, .string ⟨ro.toArray⟩, .slice la LS.length lc, .bool ral] 131)) (w4.heap.size + 1) ⟨pg, op, ⟨ro.toArray⟩, .slice none 0 0, [], ral, ⟨rb.toArray⟩, ⟨ro.toArray⟩, .slice la LS.length lc, ral⟩ := by
    have h := Blk.new (w4.alloc (.cells #[.string ⟨rb.toArray⟩, .string ⟨ro.toArray⟩, .slice la LS.length lc, .bool ral] 127)) 131 #[.int .i64 pg, .int .u8 op, .string ⟨ro.toArray⟩, .slice none 0 0, .string ⟨#[]⟩, .bool ral, .string ⟨rb.toArray⟩, .string ⟨ro.toArray⟩, .slice la LS.length lc, .bool ral]
    rw [World.size_alloc] at h
    exact h
  have HBK := Lib.hid hbk
  have HSZ := Lib.hid hsz
  have HB5 := Lib.hid ((HB4.out.alloc HB4.out.size (.cells #[.string ⟨rb.toArray⟩, .string ⟨ro.toArray⟩, .slice la LS.length lc, .bool ral] 127)).alloc (by rw [World.size_alloc]; exact Nat.le_succ_of_le HB4.out.size) (.cells #[.int .i64 pg, .int .u8 op, .string ⟨ro.toArray⟩, .slice none 0 0, .string ⟨#[]⟩, .bool ral, .string ⟨rb.toArray⟩, .string ⟨ro.toArray⟩, .slice la LS.length lc, .bool ral] 131))
  have HF5 := Lib.hid ((HF4.out.alloc (.cells #[.string ⟨rb.toArray⟩, .string ⟨ro.toArray⟩, .slice la LS.length lc, .bool ral] 127)).alloc (.cells #[.int .i64 pg, .int .u8 op, .string ⟨ro.toArray⟩, .slice none 0 0, .string ⟨#[]⟩, .bool ral, .string ⟨rb.toArray⟩, .string ⟨ro.toArray⟩, .slice la LS.length lc, .bool ral] 131))
  have HLS5 := Lib.hid ((HLS.out.alloc (.cells #[.string ⟨rb.toArray⟩, .string ⟨ro.toArray⟩, .slice la LS.length lc, .bool ral] 127)).alloc (.cells #[.int .i64 pg, .int .u8 op, .string ⟨ro.toArray⟩, .slice none 0 0, .string ⟨#[]⟩, .bool ral, .string ⟨rb.toArray⟩, .string ⟨ro.toArray⟩, .slice la LS.length lc, .bool ral] 131))
  have hltw : w.heap.size < w4.heap.size := HF4.out.lt
  have hbpA : w4.heap.size < w4.heap.size + 1 := Nat.lt_succ_self _
  have hbpB := HBK.out.lt
  clear HF4 hsz hbk
  have hwh : w.heap.size ≤ w4.heap.size := HB4.out.size
  generalize ((w4.alloc (.cells #[.string ⟨rb.toArray⟩, .string ⟨ro.toArray⟩, .slice la LS.length lc, .bool ral] 127)).alloc (.cells #[.int .i64 pg, .int .u8 op, .string ⟨ro.toArray⟩, .slice none 0 0, .string ⟨#[]⟩, .bool ral, .string ⟨rb.toArray⟩, .string ⟨ro.toArray⟩, .slice la LS.length lc, .bool ral] 131)) = w5 at *
  generalize w4.heap.size + 1 = bp at *
  have HLT := Lib.hid hltw
  have HPA' := Lib.hid hbpA
  have HPB := Lib.hid hbpB
  obtain ⟨a1, c1, heq, hc1, hm1, g1⟩ := HLS5.out.str
  injection heq with ea eb ec
  subst ea
  subst ec
  have hm : ∀ k (x : ByteArray), LS[k]? = some x → ra.drop k = x.data.toList :: ra.drop (k + 1) := fun k x hx => by
    rw [← HLM.out, ← List.map_drop, ← List.map_drop]
    rw [List.drop_eq_getElem_cons (List.getElem?_eq_some_iff.1 hx).1, List.map_cons, (List.getElem?_eq_some_iff.1 hx).2]
  have hxl : ∀ k (x : ByteArray), LS[k]? = some x → x.size ≤ 1000 := fun k x hx => by
    have := HAS.out x.data.toList (by show _ ∈ ra; rw [← HLM.out]; exact List.mem_map_of_mem (List.mem_of_getElem? hx))
    simpa using this
  have hcn : LS.length ≤ 8 := by have := HCN.out; have e := HLM.out; change ra.length ≤ 8 at this; rw [← e, List.length_map] at this; exact this
  have HM := Lib.hid hm
  have HXL := Lib.hid hxl
  have HG1 := Lib.hid g1
  clear hltw hbpA hbpB hm hxl g1 hwh HLK HPA HF0 HB0 HB2 HF2 HB4 HLS HLS5
  go_loopw [44] (fun i wr => ∃ (k : Nat) (v : Value) (exk : List UInt8) (ys os2 : List Opd) (e2 : List UInt8), k ≤ LS.length ∧ i = .int .i64 k ∧ FnI w5 bp ⟨pg, op, ⟨ro.toArray⟩, v, exk, ral, ⟨rb.toArray⟩, ⟨ro.toArray⟩, .slice la LS.length lc, ral⟩ ys wr ∧ exk.length ≤ k ∧ ys.length = k ∧ argsF rb op (ra.drop k) = some (os2, e2) ∧ os = ys ++ os2 ∧ ex = exk ++ e2) (fun i _ => LS.length - (intOf i).toNat)
  case atStart => exact ⟨0, _, [], [], os, ex, Nat.zero_le _, rfl, ⟨HBK.out, Own.nil _ _ _ _ _, grown_of _ (Below.refl _ _), HPB.out⟩, Nat.le_refl _, rfl, HA.out, rfl, rfl⟩
  case round =>
    obtain ⟨k, v, exk, ys, os2, e2, hk, rfl, hf, hex, hys, ha2, hos, hexx⟩ := hrel
    by_cases hlt : k < LS.length
    · have hxk := List.getElem?_eq_getElem hlt
      rw [HM.out k _ hxk] at ha2
      obtain ⟨o, e1, os3, e3, h1, h2, rfl, rfl⟩ := argsF_cons ha2
      obtain ⟨av, cv, rfl⟩ : ∃ a c, v = .slice a ys.length c := hf.own.form
      obtain ⟨b1, o1, rfl, hb1, d1⟩ := HG1.out k _ hxk
      have hsx := HXL.out k _ hxk
      have hwk : wr.cell? ⟨b1, o1 + k, none⟩ = some (.string LS[k]) := by
        rw [← d1]; exact World.cell?_of_block (w := w5) (hf.grown.block b1 (by have := HPA'.out; have := HPB.out; omega) (fun e => by injection e with e; have := HPA'.out; omega))
      generalize LS[k] = x at *
      have HAR := Lib.hid (arg_any bp ⟨pg, op, ⟨ro.toArray⟩, .slice av ys.length cv, exk, ral, ⟨rb.toArray⟩, ⟨ro.toArray⟩, .slice (some ⟨b1, o1, none⟩) LS.length lc, ral⟩ x o e1 wr hf.bk ⟨HOP.out, by show rb.toArray.size ≤ _; rw [List.size_toArray]; exact HBT.out, by show exk.length ≤ _; omega, ⟨_, _, _, rfl⟩, ⟨_, _, _, rfl⟩⟩ (by rw [show (⟨rb.toArray⟩ : ByteArray).data.toList = rb by simp]; exact h1) hsx (HT.out.below (HB5.out.grown hf.grown HB5.out.size (fun k e => by injection e with e; have := HLT.out; have := HPA'.out; omega))))
      have HEX := Lib.hid hexx
      have HOS := Lib.hid hos
      have HF := Lib.hid hf
      have HL1 := Lib.hid (argF_ext h1)
      have H2 := Lib.hid h2
      have HEL := Lib.hid hex
      have HYL := Lib.hid hys
      clear hexx hos hf h1 h2 ha2 hb1 d1 hsx hex hys hxk
      go_upto_region 11 with (go_at_call 89; refine HAR.out.mono ?_; rintro e w6 ⟨rfl, hbk6, hg6⟩; have HF6 := Lib.hid (HF.out.arg hbk6 hg6); clear hbk6 hg6; unfold Opd.val)
      have HF7 := Lib.hid (HF6.out.later ((Below.refl _ _).alloc (Nat.le_refl _) (.cells #[.int .i64 o.kind, .int .i64 o.reg, .int .i64 o.n] 87)).drew)
      obtain ⟨a3, c3, w7, hrun, hk7, hf7⟩ := HF7.out.push o (by have := HYL.out; omega)
      have hsz7 : (w6.alloc (.cells #[.int .i64 o.kind, .int .i64 o.reg, .int .i64 o.n] 87)).drew.heap.size = w6.heap.size + 1 := by show (w6.alloc (.cells #[.int .i64 o.kind, .int .i64 o.reg, .int .i64 o.n] 87)).heap.size = _; rw [World.size_alloc]
      have hrun2 : (Builtin.append_ #[23, 23] 23 #[.slice av ys.length cv, .slice (some ⟨w6.heap.size + 1, 0, none⟩) 1 1]).run Tryz.prog ((w6.alloc (.cells #[.int .i64 o.kind, .int .i64 o.reg, .int .i64 o.n] 87)).alloc (.cells #[.int .i64 o.kind, .int .i64 o.reg, .int .i64 o.n] 87)).drew = .ok (.slice a3 (ys.length + 1) c3) w7 := by
        rw [hsz7] at hrun
        exact hrun
      clear hrun hsz7
      have q3 : (w6.alloc (.cells #[.int .i64 o.kind, .int .i64 o.reg, .int .i64 o.n] 87)).drew.cell? ⟨bp, 3, none⟩ = some (.slice av ys.length cv) := HF7.out.bk.cell 3
      have q3' : ((w6.alloc (.cells #[.int .i64 o.kind, .int .i64 o.reg, .int .i64 o.n] 87)).alloc (.cells #[.int .i64 o.kind, .int .i64 o.reg, .int .i64 o.n] 87)).drew.cell? ⟨bp, 3, none⟩ = some (.slice av ys.length cv) := (HF7.out.bk.alloc (.cells #[.int .i64 o.kind, .int .i64 o.reg, .int .i64 o.n] 87)).cell 3
      have q7 : w7.cell? ⟨bp, 3, none⟩ = some (.slice av ys.length cv) := hk7.cell 3
      have q7f : w7.frozen? ⟨bp, 3, none⟩ = false := hk7.free 3
      have HF8 := Lib.hid hf7
      clear hf7 hk7
      go_region_law ((refine step_app_run (by rfl) (.tmp 57) (.tmp 59) 23 (by rfl) _ _ _ (by rfl) (by rfl) hrun2 ?_))
      all_goals
        go_wp2
        go_roundw
        case rel => exact ⟨k + 1, .slice a3 (ys.length + 1) c3, exk ++ e1, ys ++ [o], os3, e3, by omega, by go_num, HF8.out, by rw [List.length_append]; have := HL1.out; have := HEL.out; omega, by rw [List.length_append, HYL.out]; rfl, H2.out, by rw [HOS.out, List.append_assoc]; rfl, by rw [HEX.out, List.append_assoc]⟩
        case measure => simp [intOf]; omega
    · have hkl : k = LS.length := by omega
      have hd : ra.drop k = [] := by rw [← HLM.out, hkl, ← List.map_drop, List.drop_length]; rfl
      rw [hd, argsF] at ha2
      injection ha2 with ha2
      injection ha2 with hz1 hz2
      subst hz1 hz2
      rw [List.append_nil] at hos hexx
      subst hos hexx
      obtain ⟨av, cv, rfl⟩ : ∃ a c, v = .slice a os.length c := hf.own.form
      have HFB := Lib.hid (HF5.out.grown hf.grown (fun e => by injection e with e; have := HLT.out; have := HPA'.out; omega))
      have k0 : wr.cell? ⟨bp, 0, none⟩ = some (.int .i64 pg) := hf.bk.cell 0
      have k1 : wr.cell? ⟨bp, 1, none⟩ = some (.int .u8 op) := hf.bk.cell 1
      have k2 : wr.cell? ⟨bp, 2, none⟩ = some (.string ⟨ro.toArray⟩) := hf.bk.cell 2
      have k3 : wr.cell? ⟨bp, 3, none⟩ = some (.slice av os.length cv) := hf.bk.cell 3
      have k4 : wr.cell? ⟨bp, 4, none⟩ = some (.string ⟨ex.toArray⟩) := hf.bk.cell 4
      have k5 : wr.cell? ⟨bp, 5, none⟩ = some (.bool ral) := hf.bk.cell 5
      have f0 := HFB.out.cell 0
      have f1 := HFB.out.cell 1
      have f2 := HFB.out.cell 2
      have f3 := HFB.out.cell 3
      have f4 := HFB.out.cell 4
      have f5 := HFB.out.cell 5
      have z0 := HFB.out.free 0
      have z1 := HFB.out.free 1
      have z2 := HFB.out.free 2
      have z3 := HFB.out.free 3
      have z4 := HFB.out.free 4
      have z5 := HFB.out.free 5
      have HBW := Lib.hid (HB5.out.grown hf.grown HB5.out.size (fun k e => by injection e with e; have := HLT.out; have := HPA'.out; omega))
      have HO := Lib.hid hf.own
      clear hf hd hex hys hk
      go_wp2
      refine bodyPost_ret (results_row_tmp rfl _ _ w.heap.size 27 #[.int .i64 pg, .int .u8 op, .string ⟨ro.toArray⟩, .slice av os.length cv, .string ⟨ex.toArray⟩, .bool ral] (0, 0) _ rfl (show Blk _ w.heap.size 27 #[.int .i64 pg, .int .u8 op, .string ⟨ro.toArray⟩, .slice av os.length cv, .string ⟨ex.toArray⟩, .bool ral] from (((((HFB.out.set 0 _).set 1 _).set 2 _).set 3 _).set 4 _).set 5 _) Tryz.underlying27 rfl (by kernel_rfl)) rfl ⟨_, rfl, (HO.out.keep (fun j hj => ?_)).base (by have := HLT.out; have := HPA'.out; have := HPB.out; omega), ?_⟩
      · have hne : j ≠ w.heap.size := by
          rcases hj with hj | hj
          · exact hj.elim
          · have := (HO.out.lt j hj).1; have := HLT.out; have := HPA'.out; have := HPB.out; omega
        rw [Below.heap_setCell _ _ _ _ hne, Below.heap_setCell _ _ _ _ hne, Below.heap_setCell _ _ _ _ hne, Below.heap_setCell _ _ _ _ hne, Below.heap_setCell _ _ _ _ hne, Below.heap_setCell _ _ _ _ hne]
      · exact (((((HBW.out.setCell (Nat.le_refl _) _).setCell (Nat.le_refl _) _).setCell (Nat.le_refl _) _).setCell (Nat.le_refl _) _).setCell (Nat.le_refl _) _).setCell (Nat.le_refl _) _
end Go.Proofs.YtlepicdjnbbndaaGreatDoor
