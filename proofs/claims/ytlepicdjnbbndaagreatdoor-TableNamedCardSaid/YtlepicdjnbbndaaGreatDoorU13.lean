/-
  table.patterns, table.with. Conditions: sizes.
-/
import Derived.Test.YtlepicdjnbbndaaGreatDoorU12
namespace Go.Proofs.YtlepicdjnbbndaaGreatDoor
open Go.RowKit Go.Shelf Go.Sort
attribute [local go_sem] Oper.semAt_some

set_option maxRecDepth 100000 in
theorem patterns_any (p : Int) (w : World) : Calls Tryz.prog 64 #[.int .i64 p] w fun e w' => e = .returned (.string (patB p)) ∧ w' = w := by
  by_cases h0 : p = 0
  · subst h0
    rw [show patB 0 = mainB from if_pos (.inl rfl)]
    go_enter Tryz.func64, Tryz.ntmps64
    go_wp2
    go_ret
    exact ⟨rfl, rfl⟩
  have c0 : (p == 0) = false := by rw [beq_eq_false_iff_ne]; exact h0
  by_cases h3 : p = 3
  · subst h3
    rw [show patB 3 = mainB from if_pos (.inr (.inl rfl))]
    go_enter Tryz.func64, Tryz.ntmps64
    go_wp2
    go_ret
    exact ⟨rfl, rfl⟩
  have c3 : (p == 3) = false := by rw [beq_eq_false_iff_ne]; exact h3
  by_cases h4 : p = 4
  · subst h4
    rw [show patB 4 = mainB from if_pos (.inr (.inr rfl))]
    go_enter Tryz.func64, Tryz.ntmps64
    go_wp2
    go_ret
    exact ⟨rfl, rfl⟩
  have c4 : (p == 4) = false := by rw [beq_eq_false_iff_ne]; exact h4
  have e0 : patB p = if p = 1 ∨ p = 5 ∨ p = 6 then cbB else if p = 2 then edB else ⟨#[]⟩ := if_neg (fun e => e.elim h0 (fun e => e.elim h3 h4))
  rw [e0]
  by_cases h1 : p = 1
  · subst h1
    rw [if_pos (.inl rfl)]
    go_enter Tryz.func64, Tryz.ntmps64
    go_wp2
    go_ret
    exact ⟨rfl, rfl⟩
  have c1 : (p == 1) = false := by rw [beq_eq_false_iff_ne]; exact h1
  by_cases h5 : p = 5
  · subst h5
    rw [if_pos (.inr (.inl rfl))]
    go_enter Tryz.func64, Tryz.ntmps64
    go_wp2
    go_ret
    exact ⟨rfl, rfl⟩
  have c5 : (p == 5) = false := by rw [beq_eq_false_iff_ne]; exact h5
  by_cases h6 : p = 6
  · subst h6
    rw [if_pos (.inr (.inr rfl))]
    go_enter Tryz.func64, Tryz.ntmps64
    go_wp2
    go_ret
    exact ⟨rfl, rfl⟩
  have c6 : (p == 6) = false := by rw [beq_eq_false_iff_ne]; exact h6
  rw [if_neg (fun e => e.elim h1 (fun e => e.elim h5 h6))]
  by_cases h2 : p = 2
  · subst h2
    rw [if_pos rfl]
    go_enter Tryz.func64, Tryz.ntmps64
    go_wp2
    go_ret
    exact ⟨rfl, rfl⟩
  have c2 : (p == 2) = false := by rw [beq_eq_false_iff_ne]; exact h2
  rw [if_neg h2]
  clear h0 h1 h2 h3 h4 h5 h6
  go_enter Tryz.func64, Tryz.ntmps64
  go_wp2
  go_ret
  exact ⟨rfl, rfl⟩

/-- the blocks of with's own: the mnemonic, the accumulator's box -/
structure WiB (w0 : World) (b : Nat) (op : ByteArray) (l : List (List UInt8)) (w : World) : Prop where
  op : Blk w b 9 #[.string op]
  acc : ∃ v, Blk w (b + 1) 102 #[v] ∧ Own strR w (b + 3) 9 NoB v (l.map bs)
  below : Below w0.heap.size w0 w
  at_ : w0.heap.size ≤ b
  sz : b + 3 ≤ w.heap.size
theorem Own.ownBF {α : Type} {R : Rep α} {w w' : World} {B0 bx B : Nat} {e : TypeId} {v : Value} {xs : List α} {row : Option Nat} (h : Own R w B0 e NoB v xs) (hne : bx < B0) (hg : w.grownBy w' row) (hr : ∀ r, row = some r → r = bx ∨ (B ≤ r ∧ ∃ o : Obj, w.heap[r]? = some o ∧ o.isCells = false)) : Own R w' B0 e NoB v xs := by
  have hlt := h.lt
  have hcells : ∀ k, v.ownBlock = some k → ∃ cs t fz, w.heap[k]? = some (.cells cs t fz) := by
    obtain ⟨cs, hrow, _⟩ := h
    intro k hk
    rcases hrow.2 with ⟨rfl, _⟩ | ⟨g, cap, cur, rfl, hb, hg2, _⟩
    · cases hk
    · injection hk with hk; subst hk; exact ⟨_, _, _, hg2⟩
  refine h.keep (fun k hk => ?_)
  rcases hk with hk | hk
  · exact hk.elim
  · refine hg.block k (hlt k hk).2 (fun e => ?_)
    rcases hr k e.symm with h1 | ⟨_, o, ho, hc⟩
    · have := (hlt k hk).1; omega
    · obtain ⟨cs, t, fz, h2⟩ := hcells k hk
      rw [h2] at ho
      injection ho with ho
      subst ho
      cases hc
theorem WiB.own {w0 : World} {b bx B : Nat} {op : ByteArray} {l : List (List UInt8)} (hbx : bx = b + 2) (hB : w0.heap.size ≤ B) {w w' : World} {row : Option Nat} (h : WiB w0 b op l w) (hg : w.grownBy w' row) (hr : ∀ r, row = some r → r = bx ∨ (B ≤ r ∧ ∃ o : Obj, w.heap[r]? = some o ∧ o.isCells = false)) : WiB w0 b op l w' := by
  obtain ⟨v, h1, h2⟩ := h.acc
  exact ⟨h.op.ownBF (by omega) hg hr, ⟨v, h1.ownBF (by omega) hg hr, h2.ownBF (by omega) hg hr⟩, h.below.grown hg h.below.size (fun k hk => by
    have := h.at_
    rcases hr k hk with h1 | ⟨h1, _⟩ <;> omega), h.at_, Nat.le_trans h.sz hg.size⟩
theorem withF_snoc (op : List UInt8) (l : List (List UInt8)) (t : List UInt8) : withF op (l ++ [t]) = if wordB op t then withF op l ++ [t] else withF op l := by
  unfold withF
  rw [List.filter_append]
  cases h : wordB op t <;> simp [h]
theorem wpListIn_append_run {F : Fence} {nF : Nat} {P : Program} {ops : Array Oper} {rest : List Oper} {o : Oper} {a : Act} {w : World} {Q : Exit → Act → World → Prop} (hgd : o.guard = none) (s x : Operand) (t : TypeId)
    (ho : o.op = .call { callee := .builtin .append, args := #[s, x], argTypes := #[t, t] }) {v vx r : Value} {w' : World} (hs : a.eval s = v) (hxe : a.eval x = vx) (hrun : (Builtin.append_ #[t, t] o.type #[v, vx]).run P w = .ok r w')
    (h : wpListIn F nF P ops Q rest (a.put o.dst r) w') : wpListIn F nF P ops Q (o :: rest) a w := by
  refine wpListIn_plain hgd fun K hK' => ?_
  unfold Oper.wpIn
  refine ⟨?_, ?_⟩
  · simp [Oper.about, ho, resolve, Target.leads, Sem.run_pure]
  · rw [Oper.semAt_plain F _ _ (by rw [ho]; intro c hc'; cases hc')]
    simp [execOp, ho, resolve, invoke, builtin, hs, hxe, hrun, Result.andThen]
    exact hK' _ _ h
theorem mnem_eq (x : List UInt8) (op : ByteArray) (h : 9 ≤ x.length) : wordB op.data.toList x = ((⟨(mnemF x).toArray⟩ : ByteArray).toList == op.toList) := by
  unfold wordB
  rw [decide_eq_true h, Bool.true_and, Go.ByteArray.toList_eq, Go.ByteArray.toList_eq]
  show decide (mnemF x = op.data.toList) = (mnemF x == op.data.toList)
  rw [Bool.eq_iff_iff]
  simp
theorem drop9 (x : List UInt8) : ((⟨x.toArray⟩ : ByteArray).extract 9 x.length).data.toList = x.drop 9 := by
  simp
  exact List.take_of_length_le (by simp)
theorem WiB.drewN {w0 w : World} {b : Nat} {op : ByteArray} {l : List (List UInt8)} (h : WiB w0 b op l w) (n : Nat) : WiB w0 b op l (w.drewN n) := by
  obtain ⟨v, h1, h2⟩ := h.acc
  exact ⟨h.op, ⟨v, h1, h2.keep (fun _ _ => rfl)⟩, below_dN h.below n, h.at_, h.sz⟩
theorem WiB.app {w0 W : World} {b : Nat} {op : ByteArray} {l : List (List UInt8)} {oa : Option Addr} {oc : Nat} (x : List UInt8) (h : WiB w0 b op l W) (h1 : Blk W (b + 1) 102 #[.slice oa l.length oc]) (hov : Own strR W (b + 3) 9 NoB (.slice oa l.length oc) (l.map bs))
    (hlen : l.length ≤ 100000) (n : Nat) : ∃ a5 c5 w3, (Builtin.append_ #[102, 102] 102 #[.slice oa l.length oc, .slice (some ⟨W.heap.size, 0, none⟩) 1 1]).run Tryz.prog ((W.drewN n).alloc (.cells #[.string ⟨x.toArray⟩] 9)) = .ok (.slice a5 (l.length + 1) c5) w3 ∧
      Blk w3 (b + 1) 102 #[.slice oa l.length oc] ∧ KeepsFrom (b + 3) W (w3.setCell ⟨b + 1, 0, none⟩ (.slice a5 (l.length + 1) c5)) ∧ (w3.setCell ⟨b + 1, 0, none⟩ (.slice a5 (l.length + 1) c5)).heap[b + 2]? = W.heap[b + 2]? ∧ WiB w0 b op (l ++ [x]) (w3.setCell ⟨b + 1, 0, none⟩ (.slice a5 (l.length + 1) c5)) := by
  have hov2 : Own strR (W.drewN n) (b + 3) 9 NoB (.slice oa l.length oc) (l.map bs) := hov.keep (fun _ _ => rfl)
  have hlt := hov.lt
  have hat := h.at_
  have hB := h.sz
  have hcells : ∀ k, Value.ownBlock (.slice oa l.length oc) = some k → ∃ cs t fz, W.heap[k]? = some (.cells cs t fz) := by
    obtain ⟨cs, hrow, _⟩ := hov
    intro k hk
    rcases hrow.2 with ⟨e, _⟩ | ⟨g, cap, cur, e, hb, hg2, _⟩
    · rw [e] at hk; cases hk
    · rw [e] at hk; injection hk with hk; subst hk; exact ⟨_, _, _, hg2⟩
  obtain ⟨a5, c5, w3, hrun, ho, hg⟩ := Own.pushed (P := Tryz.prog) (t := 102) (ty := 102) (x := bs x) elStr hov2 #[.string ⟨x.toArray⟩] rfl (by rw [List.length_map]; omega) (by rw [List.length_map]; omega) hB
  rw [List.length_map] at hrun ho
  have hkeep : ∀ k o, W.heap[k]? = some o → Value.ownBlock (.slice oa l.length oc) ≠ some k → w3.heap[k]? = some o := fun k o hk hne => (hg.block k (Array.getElem?_eq_some_iff.1 hk).1 (fun e => hne e.symm)).trans hk
  have hnot : ∀ k, k < b + 3 → Value.ownBlock (.slice oa l.length oc) ≠ some k := fun k hk e => by have := (hlt k e).1; omega
  have h13 : Blk w3 (b + 1) 102 #[.slice oa l.length oc] := hkeep _ _ h1 (hnot _ (by omega))
  have hsz : W.heap.size ≤ w3.heap.size := hg.size
  refine ⟨a5, c5, w3, hrun, h13, ⟨by rw [World.size_setCell]; exact hsz, fun k o hk hko hc => ?_⟩, ?_, ⟨?_, ⟨_, h13.set 0 _, ?_⟩, ?_, hat, by rw [World.size_setCell]; omega⟩⟩
  · refine (Below.heap_setCell _ _ _ _ (by show k ≠ b + 1; omega)).trans (hkeep _ _ hko (fun e => ?_))
    obtain ⟨cs, t, fz, h2⟩ := hcells k e
    rw [h2] at hko
    injection hko with hko
    subst hko
    cases hc
  · refine (Below.heap_setCell _ _ _ _ (by show b + 2 ≠ b + 1; omega)).trans ?_
    exact hg.block (b + 2) (by show b + 2 < W.heap.size; omega) (fun e => hnot _ (by omega) e.symm)
  · have h0 : Blk w3 b 9 #[.string op] := hkeep _ _ h.op (hnot _ (by omega))
    exact h0.far (p := ⟨b + 1, 0, none⟩) (by show b ≠ b + 1; omega) _
  · rw [List.map_append]
    refine ho.keep (fun k hk => Below.heap_setCell _ _ _ _ ?_)
    rcases hk with hk | hk
    · exact hk.elim
    · have := (ho.lt k hk).1
      show k ≠ b + 1
      omega
  · refine Below.setCell ?_ (by show _ ≤ b + 1; omega) _
    exact h.below.trans (((below_dN (Below.refl W.heap.size W) n).mono h.below.size).trans ((Below.refl _ _).grown hg h.below.size (fun k hk => by have := (hlt k hk).1; omega)))
set_option maxHeartbeats 4000000 in
set_option maxRecDepth 100000 in
theorem with_any (s op : ByteArray) (w : World) (hs : s.size ≤ 1000000) (hl : (splitC s.data.toList).length ≤ 100000) :
    Calls Tryz.prog 63 #[.string s, .string op] w fun e w' => ∃ v, e = .returned v ∧ Own strR w' w.heap.size 9 NoB v ((withF op.data.toList (splitC s.data.toList)).map bs) ∧ Below w.heap.size w w' := by
  have hk0 : WiB w w.heap.size op [] (((w.alloc (.cells #[.string op] 9)).alloc (.cells #[.slice none 0 0] 102)).alloc (.cells #[.string s] 9)) := by
    have h2 := (Blk.new (w.alloc (.cells #[.string op] 9)) 102 #[.slice none 0 0]).alloc (.cells #[.string s] 9)
    simp only [World.size_alloc] at h2
    refine ⟨((Blk.new w 9 #[.string op]).alloc _).alloc _, ⟨_, h2, Own.nil _ _ _ _ _⟩, ?_, Nat.le_refl _, by simp only [World.size_alloc]; omega⟩
    refine (((Below.refl _ w).alloc (Nat.le_refl _) _).alloc ?_ _).alloc ?_ _ <;> simp only [World.size_alloc] <;> omega
  have hbs : Blk (((w.alloc (.cells #[.string op] 9)).alloc (.cells #[.slice none 0 0] 102)).alloc (.cells #[.string s] 9)) (w.heap.size + 2) 9 #[.string s] := by
    have h3 := Blk.new ((w.alloc (.cells #[.string op] 9)).alloc (.cells #[.slice none 0 0] 102)) 9 #[.string s]
    simp only [World.size_alloc] at h3
    exact h3
  have HK0 := Lib.hid hk0
  have HSEQ := Lib.hid (texts_seq (w.heap.size + 2) s _ hbs hs)
  have HLT : Hid (w.heap.size + 2 < (((w.alloc (.cells #[.string op] 9)).alloc (.cells #[.slice none 0 0] 102)).alloc (.cells #[.string s] 9)).heap.size) := hbs.lt
  have HLL := Lib.hid hl
  clear hk0 hbs hs hl
  generalize splitC s.data.toList = L at *
  refine (callsIn_wide (n := 9)).1 ?_
  refine callsIn_of_wp_marks Tryz.func63 rfl trivial ?_ rfl
  simp only [Tryz.ntmps63, List.size_toArray, List.length_cons, List.length_nil, Nat.reduceAdd, Nat.reduceSub, Array.replicate_succ, Array.replicate_zero, List.push_toArray, List.append_toArray, List.nil_append, List.cons_append]
  gi_wp2_with (refine ⟨trivial, ?_⟩; gi_at_call 114; refine (callsIn_wide.2 (texts_any s _)).mono ?_; rintro e w' ⟨rfl, rfl⟩)
  generalize ((w.alloc (.cells #[.string op] 9)).alloc (.cells #[.slice none 0 0] 102)).alloc (.cells #[.string s] 9) = W0 at *
  have hwl : ∀ pre : List SL, vals pre <+: L → (withF op.data.toList (vals pre)).length ≤ 100000 := fun pre hp => Nat.le_trans (List.length_filter_le _ _) (Nat.le_trans hp.length_le HLL.out)
  refine wpIn_rangeFunc_box rfl (by omega) (gf := 158) (lb := #[.pointer (some ⟨w.heap.size + 2, 0, none⟩)]) rfl trivial (enters_of Tryz.func158 (by kernel_rfl) rfl)
    (encs := encS) HLT.out HSEQ.out (Below.refl _ _) (fun _ => rfl)
    (fun pre W => WiB w w.heap.size op (withF op.data.toList (vals pre)) W)
    (fun _ _ _ => False)
    (fun pre W W' row hi hg hr => hi.own rfl HK0.out.below.size hg hr)
    (fun c pre W W' row hi hg hr => hi.elim)
    HK0.out
    (fun x => { tmps := #[.string s, .string op, undef, .pointer (some ⟨w.heap.size, 0, none⟩), .slice none 0 0, .pointer (some ⟨w.heap.size + 1, 0, none⟩), .string ⟨x.1.toArray⟩, undef, undef, undef, .string s, .func (.func 158) #[] #[.pointer (some ⟨w.heap.size + 2, 0, none⟩)], .string ⟨x.1.toArray⟩, undef, undef, undef, undef, undef, undef, undef, undef, undef, undef, undef, undef, undef, undef, undef, undef, undef, undef], defers := [] })
    ?assign ?body ?done ?stop
  case assign =>
    intro l x W K hK
    dsimp only [encS]
    gi_wp2
    exact hK
  case body =>
    rintro l pre x W hsp hk
    have HW := Lib.hid (withF_snoc op.data.toList (vals pre) x.1)
    have hva : vals (pre ++ [x]) = vals pre ++ [x.1] := by simp [vals]
    have HVA := Lib.hid hva
    have HWL := Lib.hid (hwl pre ((List.prefix_append _ _).trans (by rw [hva] at hsp; exact hsp)))
    have HK := Lib.hid hk
    have HB := Lib.hid hk.below
    obtain ⟨v, hb1, hov⟩ := hk.acc
    have HOV := Lib.hid hov
    have HB1 := Lib.hid hb1
    obtain ⟨oa, oc, rfl⟩ := hov.form
    have d0 := hk.op.cell 0
    have d1 := hb1.cell 0
    have g1 := hb1.free 0
    have hxl := x.2
    obtain ⟨x, hx⟩ := x
    dsimp only at *
    clear hk hb1 hov hsp hva hwl
    by_cases h9 : x.length < 9
    · have hwb : wordB op.data.toList x = false := by unfold wordB; rw [decide_eq_false (by omega)]; rfl
      rw [hwb] at HW
      have h9' : (x.length : Int) < 9 := by omega
      gi_wp2
      exact ⟨KeepsFrom.refl _ _, rfl, by show WiB _ _ _ (withF _ (vals _)) _; rw [HVA.out, HW.out]; exact HK.out⟩
    · have h9' : ¬ (x.length : Int) < 9 := by omega
      have h90 : 9 ≤ x.length := by omega
      have hxs : ((⟨x.toArray⟩ : ByteArray).extract 9 x.length).size ≤ 1000000 := by
        show ((⟨x.toArray⟩ : ByteArray).extract 9 x.length).data.size ≤ _
        rw [← Array.length_toList, drop9, List.length_drop]; omega
      have HCU := Lib.hid (Cut_any ((⟨x.toArray⟩ : ByteArray).extract 9 x.length) 32 W hxs)
      rw [drop9] at HCU
      have hm := mnem_eq x op h90
      rw [hm] at HW
      unfold mnemF at HW
      generalize Lib.cut (x.drop 9) [32] = q at *
      obtain ⟨q1, q2, q3⟩ := q
      dsimp only at *
      generalize (⟨q1.toArray⟩ : ByteArray) = m at *
      have HBD := Lib.hid (fun n => below_dN (Below.refl W.heap.size W) n)
      clear hxs hm
      cases hq : (m.toList == op.toList)
      · rw [hq] at HW
        gi_wp2_with (refine ⟨trivial, ?_⟩; gi_at_call 115; refine (CallsIn.inRound l (callsIn_wide.2 HCU.out)).mono ?_; rintro e w2 ⟨rfl, nq, rfl⟩)
        exact ⟨⟨Nat.le_refl _, fun _ _ _ h _ => h⟩, rfl, by show WiB _ _ _ (withF _ (vals _)) _; rw [HVA.out, HW.out]; exact HK.out.drewN nq⟩
      · rw [hq] at HW
        rw [List.length_map] at HB1 HOV
        have HAPP := Lib.hid (fun n => WiB.app x HK.out HB1.out HOV.out HWL.out n)
        rw [List.length_map] at d1
        generalize withF op.data.toList (vals pre) = F at *
        gi_wp2_with (first
          | (refine ⟨trivial, ?_⟩; gi_at_call 115; refine (CallsIn.inRound l (callsIn_wide.2 HCU.out)).mono ?_; rintro e w2 ⟨rfl, nq, rfl⟩; obtain ⟨a5, c5, w3, hrun, hb3, hkf, hbx, hwi⟩ := HAPP.out nq; have HRN := Lib.hid hrun; have g3 := hb3.free 0; have d3 := hb3.cell 0; have HKF := Lib.hid hkf; have HBX := Lib.hid hbx; have HWI := Lib.hid hwi; clear hkf hbx hwi hb3 hrun)
          | (gi_at_builtin; refine wpListIn_append_run rfl (.tmp 26) (.tmp 28) 102 rfl rfl rfl HRN.out ?_))
        have hlt := HLT.out
        exact ⟨⟨HKF.out.size, fun k o hk ho hc => HKF.out.same k o (by omega) ho hc⟩, HBX.out, by show WiB _ _ _ (withF _ (vals _)) _; rw [HVA.out, HW.out]; exact HWI.out⟩
  case done =>
    rintro D xs W hD hall hk hK
    have HKD := Lib.hid hK
    have hk2 := hk.own (bx := w.heap.size + 2) (B := W0.heap.size) rfl HK0.out.below.size (grownBy_putObj' _ D (.deferred none)) (fun r e => by injection e with e; subst e; exact .inr ⟨hD, _, hK, rfl⟩)
    rw [hall] at hk2
    obtain ⟨v, hb1, hov⟩ := hk.acc
    obtain ⟨v2, hb2, hov2⟩ := hk2.acc
    have hvv : v2 = v := by
      have hne : w.heap.size + 1 ≠ D := by have := HLT.out; omega
      have e1 : (W.putObj D (.deferred none)).heap[w.heap.size + 1]? = W.heap[w.heap.size + 1]? := World.putObj_heap_other hne
      have e2 : _ = some _ := hb1
      have e3 : _ = some _ := hb2
      rw [e1, e2] at e3
      injection e3 with e3
      injection e3 with e3
      injection e3 with e3
      injection e3 with e3
      exact e3.symm
    subst hvv
    have HOV := Lib.hid (hov2.base (B' := w.heap.size) (by omega))
    have HBW := Lib.hid hk2.below
    have d1 := hb1.cell 0
    clear hk hk2 hb1 hb2 hov hov2 hK hwl
    gi_wp2
    refine ⟨by simp, .inl ⟨_, _, rfl, run_takeDeferred HKD.out, ?_⟩⟩
    refine ⟨v2, ?_, ?_⟩
    · simp [results, Tryz.results63, go_sem]
    · exact ⟨_, rfl, HOV.out, HBW.out⟩
  case stop =>
    rintro D c pre W hD hpre h hK
    exact h.elim
end Go.Proofs.YtlepicdjnbbndaaGreatDoor
