/-
  Texts merged: W7 W8 W9 W10 W11 W12 W13 W14 
-/
import Derived.Test.YtcfjcoockklkeaaGreatDoorM3
import Derived.Shelf.RegionOpen
/-
  hexwrite.records: its iterator. Conditions: the size in its range.
-/
namespace Go.Proofs.YtcfjcoockklkeaaGreatDoor
open Go.RowKit
attribute [local go_sem] Oper.semAt_some

theorem SlR.run {w : World} {p : Blocks} {v : Value} {l : List (Nat × List UInt8)} (h : SlR runR w p v l) : ∃ a cap, v = .slice a l.length cap ∧ l.length ≤ cap ∧ cap ≤ 9223372036854775807 ∧
    ∀ i x, l[i]? = some x → ∃ b o sa sc, a = some ⟨b, o, none⟩ ∧ p b ∧ w.cell? ⟨b, o + i * 2, none⟩ = some (.int .i64 x.1) ∧ w.cell? ⟨b, o + i * 2 + 1, none⟩ = some (.slice sa x.2.length sc) ∧ SlR byteR w p (.slice sa x.2.length sc) x.2 := by
  obtain ⟨a, cap, e, h1, h2, h3⟩ := h
  refine ⟨a, cap, e, h1, by simpa [maxLen] using h2, fun i x hx => ?_⟩
  obtain ⟨b, o, cs, ea, hb, hbs, hc, hr⟩ := h3 i x hx
  obtain ⟨c1, c2, ecs, hr1, vs, hv, hs⟩ := hr
  have hr1 : c1 = [.int .i64 x.1] := hr1
  obtain ⟨sa, sc, rfl, _⟩ := hs.byte
  subst ecs hr1 hv
  exact ⟨b, o, sa, sc, ea, hb, hc 0 _ rfl, hc 1 _ rfl, hs⟩
theorem SlR.rec_ {w : World} {p : Blocks} {v : Value} {l : List (Nat × List UInt8)} (h : SlR recR w p v l) : ∃ a cap, v = .slice a l.length cap ∧ l.length ≤ cap ∧ cap ≤ 9223372036854775807 ∧
    ∀ i x, l[i]? = some x → ∃ b o sa sc, a = some ⟨b, o, none⟩ ∧ p b ∧ w.cell? ⟨b, o + i * 3, none⟩ = some (.int .i64 0) ∧ w.cell? ⟨b, o + i * 3 + 1, none⟩ = some (.int .i64 x.1) ∧ w.cell? ⟨b, o + i * 3 + 2, none⟩ = some (.slice sa x.2.length sc) ∧ SlR byteR w p (.slice sa x.2.length sc) x.2 := by
  obtain ⟨a, cap, e, h1, h2, h3⟩ := h
  refine ⟨a, cap, e, h1, by simpa [maxLen] using h2, fun i x hx => ?_⟩
  obtain ⟨b, o, cs, ea, hb, hbs, hc, hr⟩ := h3 i x hx
  obtain ⟨c1, c2, ecs, hr1, vs, hv, hs⟩ := hr
  have hr1 : c1 = [.int .i64 0, .int .i64 x.1] := hr1
  obtain ⟨sa, sc, rfl, _⟩ := hs.byte
  subst ecs hr1 hv
  exact ⟨b, o, sa, sc, ea, hb, hc 0 _ rfl, hc 1 _ rfl, hc 2 _ rfl, hs⟩
/-- an image: nil, or a block with its runs -/
def ImgV (w : World) (mv : Value) (R : List (Nat × List UInt8)) : Prop :=
  (mv = .pointer none ∧ R = []) ∨ ∃ b n d v, mv = .pointer (some ⟨b, 0, none⟩) ∧ ImgC w b d v n ∧ R = runsOf d v
theorem ImgV.below {w w' : World} {mv : Value} {R : List (Nat × List UInt8)} (h : ImgV w mv R) (hb : Below w.heap.size w w') : ImgV w' mv R := by
  rcases h with h | ⟨b, n, d, v, h1, h2, h3⟩
  · exact .inl h
  · exact .inr ⟨b, n, d, v, h1, h2.below hb h2.lt, h3⟩
theorem ImgV.sep {w : World} {mv : Value} {R : List (Nat × List UInt8)} (h : ImgV w mv R) : Sep 0 R := by
  rcases h with ⟨_, rfl⟩ | ⟨b, n, d, v, _, _, rfl⟩
  · trivial
  · exact runs_sep d v
theorem RunsV_any (mv : Value) (R : List (Nat × List UInt8)) (w : World) (h : ImgV w mv R) (hT : Deb w) :
    Calls Tryz.prog 28 #[mv] w fun e w' => ∃ v', e = .returned v' ∧ OwnL runR w' w.heap.size 68 v' R ∧ Below w.heap.size w w' := by
  rcases h with ⟨rfl, rfl⟩ | ⟨b, n, d, v, rfl, h2, rfl⟩
  · go_enter Tryz.func28, Tryz.ntmps28
    go_wp2
    go_ret
    exact ⟨_, rfl, OwnL.nil _ _ _, Below.refl _ _⟩
  · exact Runs_any b n d v w h2 hT
theorem records_any (n : Nat) (mo : Option Addr) (w : World) :
    Calls Tryz.prog 82 #[.int .i64 n, .pointer mo] w fun e w' => e = .returned (.func (.func 105) #[] #[.pointer (some ⟨w.heap.size + 1, 0, none⟩), .pointer (some ⟨w.heap.size, 0, none⟩)]) ∧ w' = (w.alloc (.cells #[.int .i64 n] 3)).alloc (.cells #[.pointer mo] 23) := by
  have hmf : ∀ (fn : Fn) (first cap : Array Value) (w : World), (Instr.makeFunc fn first cap).run Tryz.prog w = .ok (.func fn first cap) w := fun _ _ _ _ => rfl
  go_enter Tryz.func82, Tryz.ntmps82
  go_wp2
  go_ret
  exact ⟨rfl, rfl⟩
end Go.Proofs.YtcfjcoockklkeaaGreatDoor

/-
  hexwrite.records: the records that it yields. Conditions: the size in its range.
-/
namespace Go.Proofs.YtcfjcoockklkeaaGreatDoor
open Go.RowKit
attribute [local go_sem] Oper.semAt_some

/-- a record that is yielded: its data, and where they lie -/
structure YRec where
  t : Nat
  a : Nat
  l : List UInt8
  sa : Option Addr
  sc : Nat
def encY (x : YRec) : Array Value := #[.agg #[.int .i64 x.t, .int .i64 x.a, .slice x.sa x.l.length x.sc]]
def specY (x : YRec) : Nat × Nat × List UInt8 := (x.t, x.a, x.l)
def dataRec (r : Nat × List UInt8) : Nat × Nat × List UInt8 := (0, r.1, r.2)
def allRecs (n : Nat) (R : List (Nat × List UInt8)) : List (Nat × Nat × List UInt8) := (recs n R).map dataRec ++ [(1, 0, [])]
def dataTs : List TypeId := [98, 5, 68]
/-- no row of strings, no variable that holds one -/
def notStr (_ : Nat) (o : Obj) : Prop := ∀ cs t fr, o = .cells cs t fr → t ≠ 9 ∧ t ≠ 42
theorem dataTs_ok {t : TypeId} (h : t ∈ dataTs) : t ≠ 9 ∧ t ≠ 42 := by
  simp [dataTs] at h
  rcases h with rfl | rfl | rfl <;> decide
theorem SlR.tk {α : Type} {R : Rep α} {w w' : World} {v : Value} {xs : List α} (h : SlR R w (TyB w dataTs) v xs) (hT : Tk notStr w w') : SlR R w' (TyB w' dataTs) v xs := by
  have hsame : ∀ k, TyB w dataTs k → w'.heap[k]? = w.heap[k]? := fun k hk => by
    obtain ⟨cs, t, ht, hk⟩ := hk
    exact (hT k _ (fun cs2 t2 fr2 e => by injection e with _ e _; subst e; exact dataTs_ok ht) hk rfl).trans hk.symm
  exact (h.keep hsame).mono (fun k hk => hk.same (hsame k hk))
theorem SlR.tb {α : Type} {R : Rep α} {w w' : World} {ts : List TypeId} {v : Value} {xs : List α} (h : SlR R w (TyB w ts) v xs) (hb : Below w.heap.size w w') : SlR R w' (TyB w' ts) v xs :=
  (h.keep (fun k hk => hb.block k hk.lt)).mono (fun k hk => hk.same (hb.block k hk.lt))
theorem OwnL.slD {α : Type} {R : Rep α} {w : World} {B : Nat} {e : TypeId} {v : Value} {xs : List α} (h : OwnL R w B e v xs) (he : e ∈ dataTs) : SlR R w (TyB w dataTs) v xs :=
  h.slT.mono (fun k ⟨_, cs, t, ht, hk⟩ => ⟨cs, t, by simp at ht; rcases ht with rfl | rfl; exact he; simp [dataTs], hk⟩)
def RxY (n : Nat) (R : List (Nat × List UInt8)) (pre : List YRec) (x : YRec) (W : World) : Prop :=
  (∃ r, (pre.map specY ++ [specY x]) ++ r = allRecs n R) ∧ SlR byteR W (TyB W dataTs) (.slice x.sa x.l.length x.sc) x.l
/-- between two runs -/
structure YH (n : Nat) (R : List (Nat × List UInt8)) (J : List YRec → World → Prop) (bN : Nat) (v9 : Value) (done : List (Nat × List UInt8)) (pre : List YRec) (w : World) : Prop where
  j : J pre w
  all : pre.map specY = done.map dataRec
  num : Blk w bN 3 #[.int .i64 n]
  runs : SlR runR w (TyB w dataTs) v9 R
theorem YH.later {n : Nat} {R : List (Nat × List UInt8)} {J : List YRec → World → Prop} {bN : Nat} {v9 : Value} {done : List (Nat × List UInt8)} {pre : List YRec} {w w' : World} (h : YH n R J bN v9 done pre w)
    (hJ : ∀ s A B, J s A → Below A.heap.size A B → J s B) (hb : Below w.heap.size w w') : YH n R J bN v9 done pre w' :=
  ⟨hJ _ _ _ h.j hb, h.all, h.num.below hb h.num.lt, h.runs.tb hb⟩
theorem YH.next {n : Nat} {R : List (Nat × List UInt8)} {J : List YRec → World → Prop} {bN : Nat} {v9 : Value} {done : List (Nat × List UInt8)} {pre : List YRec} {w w' : World} {x : YRec} {r : Nat × List UInt8} (h : YH n R J bN v9 done pre w)
    (hx : specY x = dataRec r) (hj : J (pre ++ [x]) w') (hT : Tk notStr w w') : YH n R J bN v9 (done ++ [r]) (pre ++ [x]) w' :=
  ⟨hj, by rw [List.map_append, List.map_append, h.all, List.map_singleton, hx]; rfl, hT.blk h.num (fun cs t fr e => by injection e with _ e _; subst e; decide), h.runs.tk hT⟩
theorem recs_take {n : Nat} {R : List (Nat × List UInt8)} {k : Nat} (hk : k < R.length) : recs n (R.take (k + 1)) = recs n (R.take k) ++ splitL n R[k].1 R[k].2 := by
  rw [List.take_succ_eq_append_getElem hk]
  unfold recs
  rw [List.flatMap_append]
  simp
theorem recs_pre {n : Nat} {R : List (Nat × List UInt8)} {k q : Nat} (hk : k < R.length) (hq : q < (splitL n R[k].1 R[k].2).length) : ∃ r, (recs n (R.take k) ++ (splitL n R[k].1 R[k].2).take q).map dataRec ++ [dataRec (splitL n R[k].1 R[k].2)[q]] ++ r = allRecs n R := by
  have h1 : recs n R = recs n (R.take (k + 1)) ++ recs n (R.drop (k + 1)) := by
    unfold recs
    rw [← List.flatMap_append, List.take_append_drop]
  have h2 : splitL n R[k].1 R[k].2 = (splitL n R[k].1 R[k].2).take q ++ [(splitL n R[k].1 R[k].2)[q]] ++ (splitL n R[k].1 R[k].2).drop (q + 1) := by
    rw [← List.take_succ_eq_append_getElem hq, List.take_append_drop]
  have h3 : (recs n R).map dataRec = (recs n (R.take k) ++ (splitL n R[k].1 R[k].2).take q).map dataRec ++ [dataRec (splitL n R[k].1 R[k].2)[q]] ++ (((splitL n R[k].1 R[k].2).drop (q + 1)).map dataRec ++ (recs n (R.drop (k + 1))).map dataRec) := by
    rw [h1, recs_take hk, List.map_append, List.map_append]
    have h4 := congrArg (List.map dataRec) h2
    rw [List.map_append, List.map_append] at h4
    rw [h4]
    simp only [List.map_append, List.map_singleton, List.append_assoc]
  refine ⟨((splitL n R[k].1 R[k].2).drop (q + 1)).map dataRec ++ (recs n (R.drop (k + 1))).map dataRec ++ [(1, 0, [])], ?_⟩
  unfold allRecs
  rw [h3]
  simp only [List.append_assoc]
set_option maxHeartbeats 4000000 in
set_option maxRecDepth 100000 in
theorem records_seq (n : Nat) (R : List (Nat × List UInt8)) (mo : Option Addr) (bM bN : Nat) (w : World) (hM : Blk w bM 23 #[.pointer mo]) (hN : Blk w bN 3 #[.int .i64 n]) (hI : ImgV w (.pointer mo) R) (hT : Deb w) (hn : 1 ≤ n) (hn2 : n ≤ 255) (hRl : R.length ≤ 65536) :
    MemSeq Fence.wide 8 Tryz.prog 105 #[.pointer (some ⟨bM, 0, none⟩), .pointer (some ⟨bN, 0, none⟩)] encY (Tk notStr) (RxY n R) (fun xs => xs.map specY = allRecs n R) w := by
  intro l J W hW hJ hY h0
  have hM' := hM.below hW hM.lt
  have hN' := hN.below hW hN.lt
  have HRV := Lib.hid (RunsV_any _ R W (hI.below hW) (hT.below hW))
  have HSEP := Lib.hid hI.sep
  have HJ := Lib.hid hJ
  have HY := Lib.hid hY
  have H0 := Lib.hid h0
  have HN := Lib.hid hN'
  have c1 := hM'.cell 0
  have hR1 : (R.length : Int) ≤ 65536 := by omega
  clear hM hN hI hT hW hJ hY h0 hM' hN' hRl
  refine callsIn_of_wp Tryz.func105 rfl trivial ?_ rfl
  simp only [Tryz.ntmps105, List.size_toArray, List.length_cons, List.length_nil, Nat.reduceAdd, Nat.reduceSub, Array.replicate_succ, Array.replicate_zero, List.push_toArray, List.append_toArray, List.nil_append, List.cons_append]
  gi_wp2_with (refine ⟨trivial, ?_⟩; gi_at_call 28; refine (callsIn_wide.2 HRV.out).mono ?_; rintro e w1 ⟨v9, rfl, ho, hb⟩; have HO := Lib.hid ho; have HB := Lib.hid hb; obtain ⟨a9, c9, rfl⟩ := ho.form; clear ho hb)
  have HST : Hid (YH n R J bN (.slice a9 R.length c9) (recs n (R.take 0)) [] w1) := ⟨HJ.out _ _ _ H0.out HB.out, rfl, HN.out.below HB.out HN.out.lt, HO.out.slD (by simp [dataTs])⟩
  gi_loopw [11] (fun i wr => ∃ (k : Nat) (pre : List YRec), k ≤ R.length ∧ i = .int .i64 k ∧ YH n R J bN (.slice a9 R.length c9) (recs n (R.take k)) pre wr) (fun i _ => R.length - (intOf i).toNat)
  case atStart => exact ⟨0, [], Nat.zero_le _, rfl, HST.out⟩
  case round =>
    obtain ⟨k, pre, hk, rfl, hh⟩ := hrel
    have HH := Lib.hid hh
    have c2 := hh.num.cell 0
    clear hh
    by_cases hlt : k < R.length
    · obtain ⟨ad, cd, hv, _, _, g⟩ := HH.out.runs.run
      obtain ⟨rfl, _, rfl⟩ : a9 = ad ∧ R.length = R.length ∧ c9 = cd := by injection hv with h1 h2 h3; exact ⟨h1, h2, h3⟩
      obtain ⟨b1, o1, sa, sc, rfl, hb1, d0, d1, hsl⟩ := g k R[k] (List.getElem?_eq_getElem hlt)
      have HSL := Lib.hid hsl
      have hb1l : b1 < wr.heap.size := World.block_lt_of_cell? _ _ d0
      have hbNl : bN < wr.heap.size := HH.out.num.lt
      have hse := sep_le HSEP.out R[k] (List.getElem_mem hlt)
      have HS1 := Lib.hid hse.1
      have HS2 := Lib.hid hse.2
      have HTK := Lib.hid (recs_take (n := n) hlt)
      have HPR := Lib.hid (fun q => recs_pre (n := n) (q := q) hlt)
      clear g hv hsl hb1 hse
      have hr1 : (R[k].1 : Int) ≤ 65536 := by have := HS1.out; omega
      generalize R[k] = r at *
      have hr0 : (0 : Int) ≤ (r.1 : Int) := by omega
      have HBA : Hid (Below wr.heap.size wr (wr.alloc (.cells #[.int .i64 r.1, .slice sa r.2.length sc] 68))) := (Below.refl _ wr).alloc (Nat.le_refl _) _
      have HSP := Lib.hid (Split_in n r.1 _ _ r.2 _ (HSL.out.tb HBA.out) hn hn2 (by have := HS1.out; have := List.length_pos_iff.2 HS2.out; omega) HS1.out HS2.out)
      gi_wp2_with (refine ⟨trivial, ?_⟩; gi_at_call 106; refine (callsIn_wide.2 HSP.out).mono ?_; rintro e w2 ⟨v20, rfl, ho, hb⟩; have HB2 := Lib.hid (HBA.out.trans (hb.mono HBA.out.size)); have HO2 := Lib.hid (ho.slD (by simp [dataTs])); obtain ⟨a20, c20, rfl⟩ := ho.form; clear ho hb)
      have HST2 : Hid (YH n R J bN (.slice (some ⟨b1, o1, none⟩) R.length c9) (recs n (R.take k) ++ (splitL n r.1 r.2).take 0) pre w2) := by
        rw [List.take_zero, List.append_nil]
        exact HH.out.later HJ.out HB2.out
      have HSLN : Hid ((splitL n r.1 r.2).length ≤ 65536) := by show _ ≤ _; have := splitL_le (n := n) (by omega) r.1 r.2; have := HS1.out; omega
      have HSM := Lib.hid (splitL_mem (n := n) (by omega) r.2.length r.1 r.2 (Nat.le_refl _))
      generalize splitL n r.1 r.2 = S at *
      have hS1 : (S.length : Int) ≤ 65536 := by have := HSLN.out; omega
      clear d0 d1 c2
      gi_loopw [22] (fun i wx => ∃ (q : Nat) (pre' : List YRec), q ≤ S.length ∧ i = .int .i64 q ∧ YH n R J bN (.slice (some ⟨b1, o1, none⟩) R.length c9) (recs n (R.take k) ++ S.take q) pre' wx ∧ SlR recR wx (TyB wx dataTs) (.slice a20 S.length c20) S) (fun i _ => S.length - (intOf i).toNat)
      case atStart => exact ⟨0, pre, Nat.zero_le _, rfl, HST2.out, HO2.out⟩
      case round =>
        obtain ⟨q, pre', hq, rfl, hh, hsr⟩ := hrel
        have HH2 := Lib.hid hh
        have HSR := Lib.hid hsr
        clear hh hsr
        by_cases hqt : q < S.length
        · obtain ⟨ad, cd, hv, _, _, g⟩ := HSR.out.rec_
          obtain ⟨rfl, _, rfl⟩ : a20 = ad ∧ S.length = S.length ∧ c20 = cd := by injection hv with h1 h2 h3; exact ⟨h1, h2, h3⟩
          obtain ⟨b2, o2, sa2, sc2, rfl, hb2, d0, d1, d2, hsl2⟩ := g q S[q] (List.getElem?_eq_getElem hqt)
          have HSL2 := Lib.hid hsl2
          have HPX := Lib.hid (HPR.out q hqt)
          have HTK2 := Lib.hid (List.take_succ_eq_append_getElem hqt)
          have hsm := HSM.out S[q] (List.getElem_mem hqt)
          have hx1 : (S[q].1 : Int) ≤ 65536 := by have := HS1.out; omega
          clear g hv hsl2 hb2 hsm
          generalize S[q] = x at *
          have hx0 : (0 : Int) ≤ (x.1 : Int) := by omega
          have HBX : Hid (Below wr.heap.size wr (wr.alloc (.cells #[.int .i64 0, .int .i64 x.1, .slice sa2 x.2.length sc2] 98))) := (Below.refl _ wr).alloc (Nat.le_refl _) _
          have HH3 := Lib.hid (HH2.out.later HJ.out HBX.out)
          obtain ⟨fn, tmps, assign, body, hy, hR⟩ := HY.out pre' ⟨0, x.1, x.2, sa2, sc2⟩ _ HH3.out.j ⟨by rw [HH3.out.all]; exact HPX.out, HSL2.out.tb HBX.out⟩
          have HR := Lib.hid hR
          dsimp only [encY] at hy
          rw [show (((0 : Nat)) : Int) = 0 from rfl] at hy
          clear hR
          gi_wp2_with fail
          refine HR.out.mono ?_
          rintro e W' ⟨rfl, hj, hTk⟩
          have HH4 := Lib.hid (HH3.out.next (r := x) rfl hj hTk)
          have HSR4 := Lib.hid ((HSR.out.tb HBX.out).tk hTk)
          clear hj hTk hy d0 d1 d2
          gi_wp2
          go_roundw
          case rel => exact ⟨q + 1, pre' ++ [⟨0, x.1, x.2, sa2, sc2⟩], by omega, by go_num, by rw [HTK2.out, ← List.append_assoc]; exact HH4.out, HSR4.out⟩
          case measure => simp [intOf]; omega
        · obtain rfl : q = S.length := by omega
          have HH5 := HH2.out
          rw [List.take_length, ← HTK.out] at HH5
          have HH6 := Lib.hid HH5
          clear HH5
          gi_wp2
          go_roundw
          case rel => exact ⟨k + 1, pre', by omega, by go_num, HH6.out⟩
          case measure => simp [intOf]; omega
    · obtain rfl : k = R.length := by omega
      have HH5 := HH.out
      rw [List.take_length] at HH5
      have HH6 := Lib.hid HH5
      obtain ⟨fn, tmps, assign, body, hy, hR⟩ := HY.out pre ⟨1, 0, [], none, 0⟩ wr HH6.out.j ⟨⟨[], by rw [HH6.out.all, List.append_nil]; rfl⟩, SlR.nil _ _ _⟩
      have HR := Lib.hid hR
      have hy : (Instr.yield l #[Value.agg #[.int .i64 1, .int .i64 0, .slice none 0 0]]).run Tryz.prog wr = .ok (.round l fn tmps assign body) wr := hy
      clear hR HH5 c2
      gi_wp2_with fail
      refine HR.out.mono ?_
      rintro e W' ⟨rfl, hj, _⟩
      have HJE := Lib.hid hj
      clear hj hy
      gi_wp2
      go_end0
      exact ⟨⟨_, rfl⟩, _, by rw [List.map_append, HH6.out.all]; rfl, HJE.out⟩
end Go.Proofs.YtcfjcoockklkeaaGreatDoor

/-
  hexwrite.lines. Conditions: the size in its range.
-/
namespace Go.Proofs.YtcfjcoockklkeaaGreatDoor
open Go.RowKit
attribute [local go_sem] Oper.semAt_some

def lineB (y : Nat × Nat × List UInt8) : ByteArray := ⟨(recLine y.1 y.2.1 y.2.2).toArray⟩
theorem elStr : ElT Tryz.prog 42 9 strR.size 16 := ElT.mk' (z := .string ⟨#[]⟩) Tryz.underlying42 (by kernel_rfl) rfl (by decide)
theorem recs_count {n : Nat} (hn : 1 ≤ n) : ∀ {R : List (Nat × List UInt8)} {lo : Nat}, Sep lo R → R = [] ∨ (recs n R).length + lo ≤ 65536
  | [], _, _ => .inl rfl
  | (a, l) :: R, lo, h => by
    obtain ⟨h1, h2, h3, h4⟩ := h
    right
    have hs := splitL_le (n := n) (by omega) a l
    have hc : (recs n ((a, l) :: R)).length = (splitL n a l).length + (recs n R).length := by
      unfold recs
      rw [List.flatMap_cons, List.length_append]
    rw [hc]
    rcases recs_count hn h4 with rfl | h5
    · have : (recs n []).length = 0 := rfl
      omega
    · omega
theorem allRecs_mem {n : Nat} {R : List (Nat × List UInt8)} (hn : 1 ≤ n) (hn2 : n ≤ 255) (hS : Sep 0 R) {y : Nat × Nat × List UInt8} (h : y ∈ allRecs n R) : y.1 ≤ 255 ∧ y.2.1 ≤ 65535 ∧ y.2.2.length ≤ 255 := by
  rcases List.mem_append.1 h with h | h
  · obtain ⟨r, hr, rfl⟩ := List.mem_map.1 h
    obtain ⟨x1, x2, x3⟩ := recs_mem (by omega) hS r hr
    have := List.length_pos_iff.2 x1
    exact ⟨Nat.zero_le _, by show r.1 ≤ _; omega, by show r.2.length ≤ _; omega⟩
  · simp at h
    subst h
    exact ⟨by decide, by decide, by decide⟩
theorem wpListIn_run {F : Fence} {n : Nat} {P : Program} {ops : Array Oper} {rest : List Oper} {o : Oper} {a : Act} {Q : Exit → Act → World → Prop} {w : World} (hgd : o.guard = none) (s x : Operand) (t : TypeId)
    (ho : o.op = .call { callee := .builtin .append, args := #[s, x], argTypes := #[t, t] }) (v' : Value) (w' : World) (hrun : (Builtin.append_ #[t, t] o.type #[a.eval s, a.eval x]).run P w = .ok v' w') (h : wpListIn F n P ops Q rest (a.put o.dst v') w') :
    wpListIn F n P ops Q (o :: rest) a w := by
  refine wpListIn_plain hgd fun K hK' => ?_
  unfold Oper.wpIn
  refine ⟨?_, ?_⟩
  · simp [Oper.about, ho, resolve, Target.leads, Sem.run_pure]
  · rw [Oper.semAt_plain F _ _ (by rw [ho]; intro c hc'; cases hc')]
    simp [execOp, ho, resolve, invoke, builtin, hrun, Result.andThen]
    exact hK' _ _ h
structure LnI (w0 : World) (bO : Nat) (pre : List YRec) (w : World) : Prop where
  out : ∃ ov, Blk w bO 42 #[ov] ∧ Own strR w w0.heap.size 9 NoB ov (pre.map fun x => lineB (specY x))
  below : Below w0.heap.size w0 w
theorem Own.ownS {α : Type} {R : Rep α} {w w' : World} {B B' : Nat} {e : TypeId} {v : Value} {xs : List α} {row : Option Nat} (h : Own R w B e NoB v xs) (hg : w.grownBy w' row) (hr : ∀ r, row = some r → B' ≤ r ∧ ∃ o : Obj, w.heap[r]? = some o ∧ o.isCells = false) : Own R w' B e NoB v xs :=
  h.keep fun k hk => by
    rcases hk with hk | hk
    · exact hk.elim
    · obtain ⟨cs, h2⟩ := h.rowT hk
      exact hg.block k (h.lt k hk).2 (fun e => by
        obtain ⟨_, o, ho, hc⟩ := hr k e.symm
        rw [h2] at ho
        injection ho with ho
        subst ho
        cases hc)
theorem Own.stayS {α : Type} {R : Rep α} {w w' : World} {B : Nat} {e : TypeId} {v : Value} {xs : List α} (h : Own R w B e NoB v xs) (hb : Below w.heap.size w w') : Own R w' B e NoB v xs :=
  h.keep (Keep.of_below hb (fun j hj => by rcases hj with hj | hj; exact hj.elim; exact (h.lt j hj).2))
theorem LnI.own {w0 : World} {bO B : Nat} (hB : w0.heap.size ≤ B) : OwnFrom B (LnI w0 bO) := fun pre A C row h hg hr => by
  obtain ⟨⟨ov, h1, h2⟩, h4⟩ := h
  exact ⟨⟨ov, h1.own hg hr, h2.ownS hg hr⟩, h4.grown hg h4.size (fun k hk => by have := (hr k hk).1; omega)⟩
theorem LnI.later {w0 : World} {bO : Nat} {pre : List YRec} {w w' : World} (h : LnI w0 bO pre w) (hb : Below w.heap.size w w') : LnI w0 bO pre w' := by
  obtain ⟨⟨ov, h1, h2⟩, h4⟩ := h
  exact ⟨⟨ov, h1.below hb h1.lt, h2.stayS hb⟩, h4.trans (hb.mono h4.size)⟩
/-- what the body of a round is told of its record -/
structure LnA (n : Nat) (R : List (Nat × List UInt8)) (pre : List YRec) (x : YRec) (Bx : Nat) (w : World) : Prop where
  box : Blk w Bx 98 #[.int .i64 x.t, .int .i64 x.a, .slice x.sa x.l.length x.sc]
  data : SlR byteR w (TyB w dataTs) (.slice x.sa x.l.length x.sc) x.l
  all : ∃ r, (pre.map specY ++ [specY x]) ++ r = allRecs n R
theorem SlR.ownT {α : Type} {R : Rep α} {w w' : World} {B' : Nat} {ts : List TypeId} {v : Value} {xs : List α} {row : Option Nat} (h : SlR R w (TyB w ts) v xs) (hg : w.grownBy w' row) (hr : ∀ r, row = some r → B' ≤ r ∧ ∃ o : Obj, w.heap[r]? = some o ∧ o.isCells = false) : SlR R w' (TyB w' ts) v xs := by
  have hsame : ∀ k, TyB w ts k → w'.heap[k]? = w.heap[k]? := fun k ⟨cs, t, _, hk⟩ => hg.block k (Array.getElem?_eq_some_iff.1 hk).1 (fun e => by
    obtain ⟨_, o, ho, hc⟩ := hr k e.symm
    rw [hk] at ho
    injection ho with ho
    subst ho
    cases hc)
  exact (h.keep hsame).mono (fun k hk => hk.same (hsame k hk))
/-- the append of one line, and the store -/
theorem line_app {w0 W w2 : World} {bO : Nat} {ov : Value} {pre : List YRec} {x : YRec} (hko : Blk W bO 42 #[ov]) (hov : Own strR W w0.heap.size 9 NoB ov (pre.map fun x => lineB (specY x))) (hbw : Below w0.heap.size w0 W) (hxl : pre.length ≤ 100000) (hb : Below W.heap.size W w2) :
    ∃ a5 c5 w3, (Builtin.append_ #[42, 42] 42 #[ov, .slice (some ⟨w2.heap.size, 0, none⟩) 1 1]).run Tryz.prog (w2.alloc (.cells #[.string (lineB (specY x))] 9)) = .ok (.slice a5 (pre.length + 1) c5) w3 ∧ Blk w3 bO 42 #[ov] ∧
      ∀ B, w0.heap.size ≤ bO → Recs B W (w3.setCell ⟨bO, 0, none⟩ (.slice a5 (pre.length + 1) c5)) ∧ Tk notStr W (w3.setCell ⟨bO, 0, none⟩ (.slice a5 (pre.length + 1) c5)) ∧ LnI w0 bO (pre ++ [x]) (w3.setCell ⟨bO, 0, none⟩ (.slice a5 (pre.length + 1) c5)) := by
  have hov2 := hov.stayS hb
  have hB : w0.heap.size ≤ w2.heap.size := Nat.le_trans hbw.size hb.size
  obtain ⟨a5, c5, w3, hrun, hp, hg, _⟩ := Own.pushedA (P := Tryz.prog) (t := 42) (ty := 42) (x := lineB (specY x)) elStr hov2 #[.string (lineB (specY x))] rfl (by simp; omega) (by simp; omega) hB
  rw [List.length_map] at hrun hp
  have hsame : ∀ k o, W.heap[k]? = some o → ov.ownBlock ≠ some k → w3.heap[k]? = some o := fun k o hk hne => by
    have hlt : k < W.heap.size := (Array.getElem?_eq_some_iff.1 hk).1
    exact (hg.block k (Nat.lt_of_lt_of_le hlt hb.size) (fun e => hne e.symm)).trans ((hb.block k hlt).trans hk)
  have hnr : ov.ownBlock ≠ some bO := fun e => by
    obtain ⟨cs2, h2⟩ := hov.rowT e
    have hk : W.heap[bO]? = some (.cells #[ov] 42 (0, 0)) := hko
    rw [hk] at h2
    injection h2 with h2
    injection h2 with _ h2
    exact absurd h2 (by decide)
  have hk3 : Blk w3 bO 42 #[ov] := hsame _ _ hko hnr
  refine ⟨a5, c5, w3, hrun, hk3, fun B hBO => ?_⟩
  have hset : ∀ k o, w3.heap[k]? = some o → k ≠ bO → (w3.setCell ⟨bO, 0, none⟩ (.slice a5 (pre.length + 1) c5)).heap[k]? = some o := fun k o hk h1 => (Below.heap_setCell _ _ _ _ h1).trans hk
  have hall : ∀ k o, W.heap[k]? = some o → ov.ownBlock ≠ some k → k ≠ bO → (w3.setCell ⟨bO, 0, none⟩ (.slice a5 (pre.length + 1) c5)).heap[k]? = some o := fun k o hk h1 h2 => hset k o (hsame k o hk h1) h2
  refine ⟨⟨?_, fun k o _ hk hc => hall k o hk (fun e => ?_) (fun e => ?_)⟩, fun k o hns hk _ => hall k o hk (fun e => ?_) (fun e => ?_), ⟨_, hk3.set 0 _, ?_⟩, (hbw.trans (hb.mono hbw.size) |>.grown hg hB (fun k hk => (hov.lt k hk).1)).setCell (p := ⟨bO, 0, none⟩) hBO _⟩
  · have : (w3.setCell ⟨bO, 0, none⟩ (.slice a5 (pre.length + 1) c5)).heap.size = w3.heap.size := by simp [World.setCell]
    rw [this]
    exact Nat.le_trans hb.size hg.size
  · obtain ⟨cs2, h2⟩ := hov.rowT e
    rw [hk] at h2; injection h2 with h2; subst h2; cases hc
  · subst e
    have h2 : W.heap[k]? = some (.cells #[ov] 42 (0, 0)) := hko
    rw [hk] at h2; injection h2 with h2; subst h2; cases hc
  · obtain ⟨cs2, h2⟩ := hov.rowT e
    rw [hk] at h2; injection h2 with h2
    exact (hns _ _ _ h2).1 rfl
  · subst e
    have h2 : W.heap[k]? = some (.cells #[ov] 42 (0, 0)) := hko
    rw [hk] at h2; injection h2 with h2
    exact (hns _ _ _ h2).2 rfl
  · rw [List.map_append, List.map_singleton]
    refine hp.keep (fun k hk => ?_)
    rcases hk with hk | hk
    · exact hk.elim
    · refine Below.heap_setCell _ _ _ _ (fun e => ?_)
      obtain ⟨cs2, h2⟩ := hp.rowT hk
      subst e
      have hk : w3.heap[k]? = some (.cells #[ov] 42 (0, 0)) := hk3
      rw [hk] at h2
      injection h2 with h2
      injection h2 with _ h2
      exact absurd h2 (by decide)
end Go.Proofs.YtcfjcoockklkeaaGreatDoor

/-
  hexwrite.lines. Conditions: the size in its range.
-/
namespace Go.Proofs.YtcfjcoockklkeaaGreatDoor
open Go.RowKit
attribute [local go_sem] Oper.semAt_some

theorem lines_start (w : World) (n : Nat) (mo : Option Addr) : Blk (((w.alloc (.cells #[.slice none 0 0] 42)).alloc (.cells #[.int .i64 n] 3)).alloc (.cells #[.pointer mo] 23)) w.heap.size 42 #[.slice none 0 0] ∧
    Blk (((w.alloc (.cells #[.slice none 0 0] 42)).alloc (.cells #[.int .i64 n] 3)).alloc (.cells #[.pointer mo] 23)) (w.heap.size + 1) 3 #[.int .i64 n] ∧
    Blk (((w.alloc (.cells #[.slice none 0 0] 42)).alloc (.cells #[.int .i64 n] 3)).alloc (.cells #[.pointer mo] 23)) (w.heap.size + 1 + 1) 23 #[.pointer mo] ∧
    Below w.heap.size w (((w.alloc (.cells #[.slice none 0 0] 42)).alloc (.cells #[.int .i64 n] 3)).alloc (.cells #[.pointer mo] 23)) := by
  refine ⟨((Blk.new _ _ _).alloc _).alloc _, ?_, ?_, (((Below.refl _ w).alloc (Nat.le_refl _) _).alloc (by simp) _).alloc (by simp; omega) _⟩
  · have := (Blk.new (w.alloc (.cells #[.slice none 0 0] 42)) 3 #[.int .i64 n]).alloc (.cells #[.pointer mo] 23)
    simpa using this
  · have := Blk.new ((w.alloc (.cells #[.slice none 0 0] 42)).alloc (.cells #[.int .i64 n] 3)) 23 #[.pointer mo]
    simpa using this
set_option maxHeartbeats 4000000 in
set_option maxRecDepth 100000 in
theorem lines_any (n : Nat) (R : List (Nat × List UInt8)) (mo : Option Addr) (w : World) (hI : ImgV w (.pointer mo) R) (hT : Deb w) (hn : 1 ≤ n) (hn2 : n ≤ 255) (hRl : R.length ≤ 65536) :
    Calls Tryz.prog 52 #[.int .i64 n, .pointer mo] w fun e w' => ∃ v', e = .returned v' ∧ Own strR w' w.heap.size 9 NoB v' ((allRecs n R).map lineB) ∧ Below w.heap.size w w' := by
  obtain ⟨hk1, hk2, hk3, hb0⟩ := lines_start w n mo
  have HK1 := Lib.hid hk1
  have HB0 := Lib.hid hb0
  have HSEP := Lib.hid hI.sep
  have hcnt : (allRecs n R).length ≤ 65537 := by
    unfold allRecs
    rw [List.length_append, List.length_map]
    rcases recs_count hn hI.sep with rfl | h
    · show (recs n []).length + 1 ≤ _; simp [recs]
    · simp; omega
  have HCNT := Lib.hid hcnt
  have hseq := records_seq n R mo (w.heap.size + 1 + 1) (w.heap.size + 1) _ hk3 hk2 (hI.below hb0) (hT.below hb0) hn hn2 hRl
  clear hI hT hk1 hk2 hk3 hb0 hRl hcnt
  have HSEQ := Lib.hid hseq
  clear hseq
  refine (callsIn_wide (n := 9)).1 ?_
  refine callsIn_of_wp_marks Tryz.func52 rfl trivial ?_ rfl
  simp only [Tryz.ntmps52, List.size_toArray, List.length_cons, List.length_nil, Nat.reduceAdd, Nat.reduceSub, Array.replicate_succ, Array.replicate_zero, List.push_toArray, List.append_toArray, List.nil_append, List.cons_append]
  gi_wp2_with (refine ⟨trivial, ?_⟩; gi_at_call 82; refine (callsIn_wide.2 (records_any n mo _)).mono ?_; rintro e w' ⟨rfl, rfl⟩)
  generalize ((w.alloc (.cells #[.slice none 0 0] 42)).alloc (.cells #[.int .i64 n] 3)).alloc (.cells #[.pointer mo] 23) = W0 at *
  refine wpIn_range_mem rfl (by omega) (gf := 105) (lb := #[.pointer (some ⟨w.heap.size + 1 + 1, 0, none⟩), .pointer (some ⟨w.heap.size + 1, 0, none⟩)]) rfl trivial (enters_of Tryz.func105 (by kernel_rfl) rfl)
    (encs := encY) (fun _ => rfl) HSEQ.out Tk.trans Tk.put (LnI w w.heap.size) (LnI.own HB0.out.size) ?start
    (fun pre x a' W => ∃ Bx, LnA n R pre x Bx W ∧ a' = { tmps := #[.int .i64 n, .pointer mo, undef, undef, .slice none 0 0, .pointer (some ⟨w.heap.size, 0, none⟩), .pointer (some ⟨Bx, 0, none⟩), undef, undef, .int .i64 n, .pointer mo, .func (.func 105) #[] #[.pointer (some ⟨w.heap.size + 1 + 1, 0, none⟩), .pointer (some ⟨w.heap.size + 1, 0, none⟩)], .agg #[.int .i64 x.t, .int .i64 x.a, .slice x.sa x.l.length x.sc], undef, undef, undef, undef, undef, undef, undef, undef, undef, undef], defers := [] })
    ?hax ?assign ?body ?done
  case start => exact ⟨⟨_, HK1.out, Own.nil _ _ _ _ _⟩, HB0.out⟩
  case hax =>
    rintro pre x a' W l o o' ⟨Bx, ⟨h1, h2, h3⟩, rfl⟩ hl ho hc
    have hr : ∀ r, (some l) = some r → 0 ≤ r ∧ ∃ o : Obj, W.heap[r]? = some o ∧ o.isCells = false := fun r e => by injection e with e; subst e; exact ⟨Nat.zero_le _, o, ho, hc⟩
    exact ⟨Bx, ⟨h1.own (put_grown o') hr, h2.ownT (put_grown o') hr, h3⟩, rfl⟩
  case assign =>
    intro l' pre x W K hi hx hK
    have HX := Lib.hid hx
    have HI := Lib.hid hi
    clear hx hi
    dsimp only [encY]
    gi_wp2
    have hb : Below W.heap.size W (W.alloc (.cells #[.int .i64 x.t, .int .i64 x.a, .slice x.sa x.l.length x.sc] 98)) := (Below.refl _ W).alloc (Nat.le_refl _) _
    exact hK _ _ (Recs.below hb) (Tk.below hb) (HI.out.later hb) ⟨W.heap.size, ⟨Blk.new _ _ _, HX.out.2.tb hb, HX.out.1⟩, rfl⟩
  case body =>
    rintro l' pre x a' W hl' hi ⟨Bx, hA, rfl⟩
    obtain ⟨⟨ov, hko, hov⟩, hbw⟩ := hi
    have hmem := allRecs_mem hn hn2 HSEP.out (y := specY x) (by obtain ⟨r, hr⟩ := hA.all; rw [← hr]; simp)
    have hlen : pre.length ≤ 100000 := by
      obtain ⟨r, hr⟩ := hA.all
      have := congrArg List.length hr
      have := HCNT.out
      simp at *
      omega
    obtain ⟨e0, e1, e2, _⟩ := hA.box.three
    have HPR := Lib.hid (Print_yes x.t x.a _ _ x.l W hA.data hmem.1 hmem.2.1 hmem.2.2)
    have hltO : w.heap.size < W.heap.size := hko.lt
    have HAPP := Lib.hid (fun (w2 : World) (hb : Below W.heap.size W w2) => line_app (x := x) hko hov hbw hlen hb)
    have hcO := fun (w2 : World) (hb : Below W.heap.size W w2) => (hko.below hb hko.lt)
    have HCO := Lib.hid hcO
    clear hcO hko hov hbw hmem hlen hA
    have hsub : 9 - 1 - 1 = 7 := rfl
    simp only [hsub]
    gi_wp2_with (first
      | (refine ⟨trivial, ?_⟩; gi_at_call 83; refine (CallsIn.inRound l' (callsIn_wide.2 HPR.out)).mono ?_; rintro e w2 ⟨rfl, hb⟩; obtain ⟨a5, c5, w3, hrun, hk3, hrest⟩ := HAPP.out w2 hb; have HRUN := Lib.hid hrun; have HREST := Lib.hid hrest; have d0 := (HCO.out w2 hb).cell 0; have d1 := hk3.cell 0; have g1 := hk3.free 0; clear hrun hrest hk3 hb)
      | (gi_at_builtin; refine wpListIn_run rfl (.tmp 18) (.tmp 20) 42 rfl _ _ HRUN.out ?_))
    exact HREST.out _ (Nat.le_refl _)
  case done =>
    rintro D xs W hD hall hi hK
    obtain ⟨⟨ov, hko, hov⟩, hbw⟩ := hi
    have hmap : (xs.map fun x => lineB (specY x)) = (allRecs n R).map lineB := by rw [← hall, List.map_map]; rfl
    rw [hmap] at hov
    obtain ⟨oa, oc, rfl⟩ := hov.form
    rw [List.length_map] at hov hko
    have HOV := Lib.hid hov
    have HBW := Lib.hid hbw
    have HKD := Lib.hid hK
    have c1 := hko.cell 0
    have hD2 : w.heap.size ≤ D := Nat.le_trans HB0.out.size hD
    clear hmap hov hbw hK hko hall
    gi_wp2
    refine ⟨by simp, .inl ⟨_, _, rfl, run_takeDeferred HKD.out, ?_⟩⟩
    refine ⟨_, results_tmp rfl _ _ _, ⟨_, rfl, ?_, ?_⟩⟩
    · exact HOV.out.ownS (B' := 0) (put_grown _) (fun r e => by injection e with e; subst e; exact ⟨Nat.zero_le _, _, HKD.out, rfl⟩)
    · exact HBW.out.grown (put_grown _) HBW.out.size (fun k e => by injection e with e; subst e; exact hD2)
end Go.Proofs.YtcfjcoockklkeaaGreatDoor

/-
  hexwrite.Join, Write, Lines, Sized. Conditions: none.
-/
namespace Go.Proofs.YtcfjcoockklkeaaGreatDoor
open Go.RowKit

theorem ba_of {s : ByteArray} {l : List UInt8} (h : s.data.toList = l) : s = ⟨l.toArray⟩ := by
  subst h
  rfl
theorem ba_app (s t : ByteArray) : (s ++ t).data.toList = s.data.toList ++ t.data.toList := by
  rw [ByteArray.data_append, Array.toList_append]
theorem join_is : ∀ (L : List (List UInt8)), L ≠ [] → Lib.join L [10] ++ [10] = joinL L
  | [], h => absurd rfl h
  | [x], _ => by simp [Lib.join, joinL]
  | x :: y :: L, _ => by
    have := join_is (y :: L) (by simp)
    rw [joinL_cons, ← this]
    simp [Lib.join]
def joinS (L : List ByteArray) : List UInt8 := joinL (L.map fun s => s.data.toList)
set_option maxHeartbeats 1000000 in
theorem Join_any (p : Blocks) (v : Value) (L : List ByteArray) (w : World) (h : SlR strR w p v L) (hn : L.length ≤ 1000000) (hl : (joinS L).length ≤ 1000000000) :
    Calls Tryz.prog 51 #[v] w fun e w' => e = .returned (.string ⟨(joinS L).toArray⟩) ∧ Below w.heap.size w w' := by
  obtain ⟨a, c, rfl, hc1, hc2, g⟩ := h.str
  cases L with
  | nil =>
    go_enter Tryz.func51, Tryz.ntmps51
    go_wp2
    go_ret
    exact ⟨rfl, Below.refl _ _⟩
  | cons s0 L =>
    obtain ⟨b, o, rfl, _, hc0⟩ := g 0 s0 rfl
    have hblt : b < w.heap.size := World.block_lt_of_cell? _ _ hc0
    have hjl : (Lib.join ((s0 :: L).map (·.data.toList)) [10]).length + 1 = (joinS (s0 :: L)).length := by
      rw [joinS, ← join_is _ (by simp), List.length_append]; rfl
    have HJ := Lib.hid (Tryz.strings_Join b o c (s0 :: L) ⟨#[10]⟩ w (fun j x hx => by obtain ⟨b', o', e, _, hc⟩ := g j x hx; injection e with e; injection e with e1 e2; subst e1 e2; exact hc) hblt (by omega) hc1 (by show (Lib.join _ [10]).length ≤ _; omega))
    have HE : Hid (⟨(Lib.join ((s0 :: L).map (·.data.toList)) [10]).toArray⟩ ++ ⟨#[10]⟩ = (⟨(joinS (s0 :: L)).toArray⟩ : ByteArray)) := by
      refine ba_of ?_
      rw [ba_app, joinS, ← join_is _ (by simp)]
    have hne : decide (((s0 :: L).length : Int) = 0) = false := by simp; omega
    have hln : ((s0 :: L).length : Int) ≤ 1000000 := by omega
    have hl1 : (1 : Int) ≤ ((s0 :: L).length : Int) := by simp; omega
    have hsz : Hid ((⟨(Lib.join ((s0 :: L).map (·.data.toList)) [10]).toArray⟩ : ByteArray).size ≤ 1000000000) := by show (Lib.join _ [10]).toArray.size ≤ _; simp only [List.size_toArray]; omega
    clear g h hc0 hjl hc1 hc2 hn hl
    generalize s0 :: L = M at *
    generalize hS : (⟨(Lib.join (M.map (·.data.toList)) [10]).toArray⟩ : ByteArray) = S at *
    have HS := Lib.hid hS
    clear hS
    have hs9 := hsz.out
    go_enter Tryz.func51, Tryz.ntmps51
    go_wp2_with (go_at_call 18; refine HJ.out.mono ?_; rintro e w' ⟨rfl, hb⟩; have HB := Lib.hid hb; clear hb)
    go_ret
    exact ⟨ret_str HE.out, HB.out⟩
theorem lines_text (n : Nat) (R : List (Nat × List UInt8)) : joinS ((allRecs n R).map lineB) = textOf n R := by
  unfold joinS textOf linesOf allRecs
  rw [List.map_append, List.map_append, List.map_map, List.map_map, List.map_singleton, List.map_singleton, ← endLine_is]
  rfl
theorem textOf_len (n : Nat) (R : List (Nat × List UInt8)) (hn : 1 ≤ n) (hn2 : n ≤ 255) (hS : Sep 0 R) : (textOf n R).length ≤ 1000000000 ∧ (allRecs n R).length ≤ 65537 := by
  have hcnt : (allRecs n R).length ≤ 65537 := by
    unfold allRecs
    rw [List.length_append, List.length_map]
    rcases recs_count hn hS with rfl | h
    · show (recs n []).length + 1 ≤ _; simp [recs]
    · simp; omega
  refine ⟨?_, hcnt⟩
  rw [← lines_text]
  have hline : ∀ y ∈ allRecs n R, (lineB y).data.toList.length ≤ 1000 := fun y hy => by
    have := (allRecs_mem hn hn2 hS hy).2.2
    show (recLine _ _ _).length ≤ _
    unfold recLine recB
    simp only [List.length_cons, flat_len, List.length_append, List.length_nil]
    omega
  have hsum : ∀ L : List (Nat × Nat × List UInt8), (∀ y ∈ L, (lineB y).data.toList.length ≤ 1000) → (joinS (L.map lineB)).length ≤ 1001 * L.length := by
    intro L
    induction L with
    | nil => intro _; exact Nat.zero_le _
    | cons y L ih =>
      intro h
      have h1 := ih (fun z hz => h z (by simp [hz]))
      have h2 := h y (by simp)
      unfold joinS at *
      rw [List.map_cons, List.map_cons, joinL_cons, List.length_append, List.length_cons, List.length_cons]
      omega
  have := hsum _ hline
  omega
set_option maxHeartbeats 1000000 in
set_option maxRecDepth 100000 in
theorem Write_any (R : List (Nat × List UInt8)) (mo : Option Addr) (w : World) (hI : ImgV w (.pointer mo) R) (hT : Deb w) (hRl : R.length ≤ 65536) :
    Calls Tryz.prog 27 #[.pointer mo] w fun e w' => e = .returned (.string ⟨(textOf 16 R).toArray⟩) ∧ Below w.heap.size w w' := by
  have hl := textOf_len 16 R (by omega) (by omega) hI.sep
  have HLN := Lib.hid (lines_any 16 R mo w hI hT (by omega) (by omega) hRl)
  have HL1 : Hid (((allRecs 16 R).map lineB).length ≤ 1000000) := by show _ ≤ _; rw [List.length_map]; omega
  have HL2 : Hid ((joinS ((allRecs 16 R).map lineB)).length ≤ 1000000000) := by show _ ≤ _; rw [lines_text]; exact hl.1
  have HE := Lib.hid (lines_text 16 R)
  clear hl hI hT hRl
  generalize (allRecs 16 R).map lineB = LS at *
  go_enter Tryz.func27, Tryz.ntmps27
  go_wp2_with (first
    | (go_at_call 52; refine HLN.out.mono ?_; rintro e w1 ⟨v1, rfl, ho, hb⟩; have HO := Lib.hid ho; have HB := Lib.hid hb; obtain ⟨a1, c1, rfl⟩ := ho.form; clear ho hb)
    | (go_at_call 51; refine (Join_any _ _ _ _ (HO.out.slR (q := fun _ => True) (fun _ h => h.elim) (fun _ _ => trivial)) HL1.out HL2.out).mono ?_; rw [HE.out]; rintro e w2 ⟨rfl, hb⟩; have HB2 := Lib.hid (HB.out.trans (hb.mono HB.out.size)); clear hb))
  go_ret
  exact ⟨rfl, HB2.out⟩
end Go.Proofs.YtcfjcoockklkeaaGreatDoor

/-
  hexwrite.Dump's closure. Conditions: the address in its range.
-/
namespace Go.Proofs.YtcfjcoockklkeaaGreatDoor
open Go.RowKit

/-- strings collected in a variable of the call's own -/
structure StrI (w0 : World) (bO : Nat) (L : List ByteArray) (w : World) : Prop where
  out : ∃ ov, Blk w bO 42 #[ov] ∧ Own strR w w0.heap.size 9 NoB ov L
  below : Below w0.heap.size w0 w
theorem StrI.later {w0 : World} {bO : Nat} {L : List ByteArray} {w w' : World} (h : StrI w0 bO L w) (hb : Below w.heap.size w w') : StrI w0 bO L w' := by
  obtain ⟨⟨ov, h1, h2⟩, h4⟩ := h
  exact ⟨⟨ov, h1.below hb h1.lt, h2.stayS hb⟩, h4.trans (hb.mono h4.size)⟩
theorem str_app {w0 W w2 : World} {bO : Nat} {ov : Value} {L : List ByteArray} (s : ByteArray) (hko : Blk W bO 42 #[ov]) (hov : Own strR W w0.heap.size 9 NoB ov L) (hbw : Below w0.heap.size w0 W) (hxl : L.length ≤ 100000) (hb : Below W.heap.size W w2) :
    ∃ a5 c5 w3, (Builtin.append_ #[42, 42] 42 #[ov, .slice (some ⟨w2.heap.size, 0, none⟩) 1 1]).run Tryz.prog (w2.alloc (.cells #[.string s] 9)) = .ok (.slice a5 (L.length + 1) c5) w3 ∧ Blk w3 bO 42 #[ov] ∧
      (w0.heap.size ≤ bO → Tk notStr W (w3.setCell ⟨bO, 0, none⟩ (.slice a5 (L.length + 1) c5)) ∧ StrI w0 bO (L ++ [s]) (w3.setCell ⟨bO, 0, none⟩ (.slice a5 (L.length + 1) c5))) := by
  have hov2 := hov.stayS hb
  have hB : w0.heap.size ≤ w2.heap.size := Nat.le_trans hbw.size hb.size
  obtain ⟨a5, c5, w3, hrun, hp, hg, _⟩ := Own.pushedA (P := Tryz.prog) (t := 42) (ty := 42) (x := s) elStr hov2 #[.string s] rfl (by omega) (by omega) hB
  have hsame : ∀ k o, W.heap[k]? = some o → ov.ownBlock ≠ some k → w3.heap[k]? = some o := fun k o hk hne => by
    have hlt : k < W.heap.size := (Array.getElem?_eq_some_iff.1 hk).1
    exact (hg.block k (Nat.lt_of_lt_of_le hlt hb.size) (fun e => hne e.symm)).trans ((hb.block k hlt).trans hk)
  have hnr : ov.ownBlock ≠ some bO := fun e => by
    obtain ⟨cs2, h2⟩ := hov.rowT e
    have hk : W.heap[bO]? = some (.cells #[ov] 42 (0, 0)) := hko
    rw [hk] at h2
    injection h2 with h2
    injection h2 with _ h2
    exact absurd h2 (by decide)
  have hk3 : Blk w3 bO 42 #[ov] := hsame _ _ hko hnr
  refine ⟨a5, c5, w3, hrun, hk3, fun hBO => ?_⟩
  have hset : ∀ k o, w3.heap[k]? = some o → k ≠ bO → (w3.setCell ⟨bO, 0, none⟩ (.slice a5 (L.length + 1) c5)).heap[k]? = some o := fun k o hk h1 => (Below.heap_setCell _ _ _ _ h1).trans hk
  refine ⟨fun k o hns hk _ => hset k o (hsame k o hk (fun e => ?_)) (fun e => ?_), ⟨_, hk3.set 0 _, ?_⟩, (hbw.trans (hb.mono hbw.size) |>.grown hg hB (fun k hk => (hov.lt k hk).1)).setCell (p := ⟨bO, 0, none⟩) hBO _⟩
  · obtain ⟨cs2, h2⟩ := hov.rowT e
    rw [hk] at h2; injection h2 with h2
    exact (hns _ _ _ h2).1 rfl
  · subst e
    have h2 : W.heap[k]? = some (.cells #[ov] 42 (0, 0)) := hko
    rw [hk] at h2; injection h2 with h2
    exact (hns _ _ _ h2).2 rfl
  · refine hp.keep (fun k hk => ?_)
    rcases hk with hk | hk
    · exact hk.elim
    · refine Below.heap_setCell _ _ _ _ (fun e => ?_)
      obtain ⟨cs2, h2⟩ := hp.rowT hk
      subst e
      have hk : w3.heap[k]? = some (.cells #[ov] 42 (0, 0)) := hk3
      rw [hk] at h2
      injection h2 with h2
      injection h2 with _ h2
      exact absurd h2 (by decide)
theorem wpList_run {P : Program} {ops : Array Oper} {rest : List Oper} {o : Oper} {a : Act} {Q : Exit → Act → World → Prop} {w : World} (hgd : o.guard = none) (s x : Operand) (t : TypeId)
    (ho : o.op = .call { callee := .builtin .append, args := #[s, x], argTypes := #[t, t] }) (v' : Value) (w' : World) (hrun : (Builtin.append_ #[t, t] o.type #[a.eval s, a.eval x]).run P w = .ok v' w') (h : wpList P ops Q rest (a.put o.dst v') w') :
    wpList P ops Q (o :: rest) a w := by
  refine wpList_plain hgd fun K hK => ?_
  unfold Oper.wp execOp
  simp only [ho, resolve, invoke, builtin, Sem.run_bind, Sem.run_pure, Result.andThen_ok, List.map_toArray, List.map_cons, List.map_nil, hrun]
  exact hK _ _ h
def dumpB (a : Nat) (l : List UInt8) : ByteArray := ⟨(dumpLine a l).toArray⟩
theorem hex4 (a : Nat) (ha : a ≤ 65535) (w : World) : Calls Tryz.prog 109 #[.int .i64 a, .int .i64 4] w fun e w' => e = .returned (.string ⟨(hexs a 4).toArray⟩) ∧ Below w.heap.size w w' := Hex_any a 4 w (by omega) (by omega)
end Go.Proofs.YtcfjcoockklkeaaGreatDoor

/-
  hexwrite.Dump. Conditions: none.
-/
namespace Go.Proofs.YtcfjcoockklkeaaGreatDoor
open Go.RowKit

def dumpR (r : Nat × List UInt8) : ByteArray := dumpB r.1 r.2
theorem parts_take {R : List (Nat × List UInt8)} {k : Nat} (hk : k < R.length) : parts (R.take (k + 1)) = parts (R.take k) ++ partL R[k].1 R[k].2 := by
  rw [List.take_succ_eq_append_getElem hk]
  unfold parts
  rw [List.flatMap_append]
  simp
theorem partL_le : ∀ (k a : Nat) (l : List UInt8), l.length ≤ k → (partL a l).length ≤ l.length
  | 0, a, l, h => by
    obtain rfl : l = [] := List.length_eq_zero_iff.1 (by omega)
    simp [partL_nil]
  | k + 1, a, l, h => by
    by_cases hl : l = []
    · subst hl; simp [partL_nil]
    · have hp := List.length_pos_iff.2 hl
      obtain ⟨i1, i2, _⟩ := inLine_pos (a := a) hp
      rw [partL_step a l hl, List.length_cons]
      have := partL_le k (a + inLine a l.length) (l.drop (inLine a l.length)) (by rw [List.length_drop]; omega)
      rw [List.length_drop] at this
      omega
theorem parts_count : ∀ {R : List (Nat × List UInt8)} {lo : Nat}, Sep lo R → R = [] ∨ (parts R).length + lo ≤ 65536
  | [], _, _ => .inl rfl
  | (a, l) :: R, lo, h => by
    obtain ⟨h1, h2, h3, h4⟩ := h
    right
    have hs := partL_le l.length a l (Nat.le_refl _)
    have hc : (parts ((a, l) :: R)).length = (partL a l).length + (parts R).length := by
      unfold parts
      rw [List.flatMap_cons, List.length_append]
    rw [hc]
    rcases parts_count h4 with rfl | h5
    · have : (parts []).length = 0 := rfl
      omega
    · omega
theorem parts_le {R : List (Nat × List UInt8)} {lo : Nat} (h : Sep lo R) : (parts R).length ≤ 65536 := by
  rcases parts_count h with rfl | h
  · simp [parts]
  · omega
theorem parts_mono (R : List (Nat × List UInt8)) (k : Nat) : (parts (R.take k)).length ≤ (parts R).length := by
  have : parts R = parts (R.take k) ++ parts (R.drop k) := by
    unfold parts
    rw [← List.flatMap_append, List.take_append_drop]
  rw [this, List.length_append]; omega
theorem dump_text (R : List (Nat × List UInt8)) : joinS ((parts R).map dumpR) = dumpOf R := by
  unfold joinS dumpOf
  rw [List.map_map]
  rfl
theorem dumpLine_len (a : Nat) (l : List UInt8) : (dumpLine a l).length = 5 + 3 * l.length := by
  have hfl : ∀ m : List UInt8, (m.flatMap (fun b => 32 :: byteTxt b)).length = 3 * m.length := fun m => by
    induction m with
    | nil => rfl
    | cons x m ih => rw [List.flatMap_cons, List.length_append, ih, List.length_cons, List.length_cons, byteTxt_len]; omega
  unfold dumpLine
  rw [List.length_append, List.length_cons, hexs_len, hfl]; omega
theorem lined_le : ∀ {D : List (Nat × List UInt8)} {p : Option Nat}, Lined p D → ∀ r ∈ D, r.2.length ≤ 16
  | [], _, _, r, hr => by cases hr
  | (a, l) :: D, p, h, r, hr => by
    obtain ⟨h1, h2, h3, h4⟩ := h
    rcases List.mem_cons.1 hr with rfl | hr
    · show l.length ≤ 16; omega
    · exact lined_le h4 r hr
theorem dumpOf_len {R : List (Nat × List UInt8)} (h : Sep 0 R) : (dumpOf R).length ≤ 1000000000 := by
  have hl : ∀ D : List (Nat × List UInt8), (∀ r ∈ D, r.2.length ≤ 16) → (joinL (D.map fun r => dumpLine r.1 r.2)).length ≤ 54 * D.length := by
    intro D
    induction D with
    | nil => intro _; exact Nat.zero_le _
    | cons r D ih =>
      intro hD
      have h1 := ih (fun x hx => hD x (by simp [hx]))
      have h2 := hD r (by simp)
      rw [List.map_cons, joinL_cons, List.length_append, List.length_cons, dumpLine_len, List.length_cons]
      omega
  have h1 := hl (parts R) (lined_le (parts_lined R 0 none h (fun x hx => by cases hx)))
  have h2 := parts_le h
  unfold dumpOf
  omega
/-- what stands while a run is listed -/
structure DpI (w0 : World) (bO : Nat) (R : List (Nat × List UInt8)) (v9 : Value) (done : List (Nat × List UInt8)) (w : World) : Prop where
  str : StrI w0 bO (done.map dumpR) w
  runs : SlR runR w (TyB w dataTs) v9 R
theorem DpI.later {w0 : World} {bO : Nat} {R : List (Nat × List UInt8)} {v9 : Value} {done : List (Nat × List UInt8)} {w w' : World} (h : DpI w0 bO R v9 done w) (hb : Below w.heap.size w w') : DpI w0 bO R v9 done w' := ⟨h.str.later hb, h.runs.tb hb⟩
theorem part_cut {w : World} {p : Blocks} {sa : Option Addr} {c n : Nat} {l : List UInt8} (h : SlR byteR w p (.slice sa l.length c) l) (hn : n ≤ l.length) : SlR byteR w p (.slice sa n c) (l.take n) := by
  obtain ⟨a', c', e, h1, h2, h3⟩ := h
  injection e with e1 e2 e3
  subst e1 e3
  have hlen : (l.take n).length = n := by simp; omega
  refine ⟨_, _, by rw [hlen], by omega, h2, fun i y hy => ?_⟩
  have hi : i < n := by rw [← hlen]; exact (List.getElem?_eq_some_iff.1 hy).1
  rw [List.getElem?_take, if_pos hi] at hy
  exact h3 i y hy
theorem part_rest {w : World} {p : Blocks} {b o c n : Nat} {l : List UInt8} (h : SlR byteR w p (.slice (some ⟨b, o, none⟩) l.length c) l) (hn : n ≤ l.length) : SlR byteR w p (.slice (some ⟨b, o + n, none⟩) (l.length - n) (c - n)) (l.drop n) := by
  obtain ⟨a', c', e, h1, h2, h3⟩ := h
  injection e with e1 e2 e3
  subst e1 e3
  have hlen : (l.drop n).length = l.length - n := by simp
  refine ⟨_, _, by rw [hlen], by omega, by omega, fun i y hy => ?_⟩
  rw [List.getElem?_drop] at hy
  obtain ⟨b', o', cs, e, hp, hlt, hcs, hr⟩ := h3 (n + i) y hy
  injection e with e
  injection e with e4 e5
  subst e4 e5
  refine ⟨_, _, cs, rfl, hp, hlt, ?_, hr⟩
  rw [byteR_size] at hcs ⊢
  rw [show o + n + i * 1 = o + (n + i) * 1 by omega]
  exact hcs
end Go.Proofs.YtcfjcoockklkeaaGreatDoor

/-
  breadboardlaw04.alive. Conditions: the library's table as its initialiser lays it.
-/
namespace Go.Proofs.YtcfjcoockklkeaaGreatDoor
open Go.RowKit

theorem runs_none (v : Nat → UInt8) : runsOf (fun _ => false) v = [] := by rw [← runs02_of, cellsOf_none]; rfl
def putTwo : ImgS := imgPut (fun _ => false) (fun _ => 0) (15 : Int) [1, 2]
theorem put_two : cellsOf putTwo.1 putTwo.2 = cellsF 15 [1, 2] ∧ putCode (fun _ => false) (15 : Int) 2 = 0 := by
  obtain ⟨h1, h2⟩ := put_behind (d := fun _ => false) (v := fun _ => 0) (a := 15) (l := [1, 2]) (fun c hc => by rw [cellsOf_none] at hc; cases hc) (by simp) (by decide)
  rw [cellsOf_none] at h1
  have e : ((15 : Nat) : Int) = (15 : Int) := rfl
  rw [e] at h1 h2
  exact ⟨h1, h2⟩
theorem runs_two : runsOf putTwo.1 putTwo.2 = [(15, [1, 2])] := by
  rw [← runs02_of, put_two.1]
  decide
theorem text_none : textOf 16 [] = [58, 48, 48, 48, 48, 48, 48, 48, 49, 70, 70, 10] := by decide
theorem dump_two : dumpOf [(15, [1, 2])] = [48, 48, 48, 70, 58, 32, 48, 49, 10, 48, 48, 49, 48, 58, 32, 48, 50, 10] := by decide
theorem ImgC.grown {w w' : World} {b n : Nat} {d : Nat → Bool} {v : Nat → UInt8} {row : Option Nat} (h : ImgC w b d v n) (hg : w.grownBy w' row) (hb : some b ≠ row) : ImgC w' b d v n := by
  have hs : w'.heap[b]? = w.heap[b]? := hg.block b h.lt hb
  have hc : ∀ o, w'.cell? ⟨b, o, none⟩ = w.cell? ⟨b, o, none⟩ := fun o => by unfold World.cell?; rw [hs]
  have hf : ∀ o, w'.frozen? ⟨b, o, none⟩ = w.frozen? ⟨b, o, none⟩ := fun o => by unfold World.frozen?; rw [hs]
  exact ⟨fun i hi => (hc i).trans (h.words i hi), (hc 1024).trans h.count, fun a ha => (hc _).trans (h.bytes a ha), fun o => (hf o).trans (h.free o)⟩
theorem put_ok {w' : World} {b n : Nat} {d : Nat → Bool} {v : Nat → UInt8} {a : Int} {l : List UInt8} (hc : putCode d a l.length = 0) (h : Put w' b n d v a l) : ImgC w' b (imgPut d v a l).1 (imgPut d v a l).2 (n + l.length) := by
  unfold Put at h
  rw [if_pos hc] at h
  unfold imgPut
  rw [if_pos hc]
  exact h
theorem PutOK_any (b n : Nat) (a : Int) (d : Nat → Bool) (v : Nat → UInt8) (p : Blocks) (vl : Value) (l : List UInt8) (w : World) (h : ImgC w b d v n) (hn : n ≤ 900000000) (hs : SlR byteR w p vl l) (hT : Deb w) (ha1 : -9223372036854775808 ≤ a) (ha2 : a ≤ 9223372036854775807) (hl : l.length ≤ 1000000) (hc : putCode d a l.length = 0) :
    Calls Tryz.prog 33 #[.pointer (some ⟨b, 0, none⟩), .int .i64 a, vl] w fun e w' => e = .returned (.int .i64 0) ∧ ImgC w' b (imgPut d v a l).1 (imgPut d v a l).2 (n + l.length) ∧ w.grownBy w' (some b) :=
  (Put_any b n a d v p vl l w h hn hs hT ha1 ha2 hl).mono fun e w' h => ⟨h.1.trans (by rw [hc]; rfl), put_ok hc h.2.1, h.2.2⟩
theorem put_two_ok {w' : World} {b : Nat} (h : ImgC w' b (imgPut (fun _ => false) (fun _ => 0) (15 : Int) [1, 2]).1 (imgPut (fun _ => false) (fun _ => 0) (15 : Int) [1, 2]).2 (0 + ([1, 2] : List UInt8).length)) : ImgC w' b putTwo.1 putTwo.2 2 := h
set_option maxRecDepth 100000 in
theorem put15 (b : Nat) (v : Nat → UInt8) (w : World) (hv : v = fun _ => 0) (h : ImgC w b (fun _ => false) v 0) (hT : Deb w) (c : Nat) (hc : c = w.heap.size) :
    Calls Tryz.prog 33 #[.pointer (some ⟨b, 0, none⟩), .int .i64 15, .slice (some ⟨c, 0, none⟩) 2 2] (w.alloc (.cells #[.int .u8 1, .int .u8 2] 5)) fun e w' => e = .returned (.int .i64 0) ∧ ImgC w' b putTwo.1 putTwo.2 2 ∧ (w.alloc (.cells #[.int .u8 1, .int .u8 2] 5)).grownBy w' (some b) := by
  subst hc hv
  have hb : Below w.heap.size w (w.alloc (.cells #[.int .u8 1, .int .u8 2] 5)) := (Below.refl _ w).alloc (Nat.le_refl _) _
  have hcode : putCode (fun _ => false) (15 : Int) ([1, 2] : List UInt8).length = 0 := put_two.2
  exact (PutOK_any b 0 15 (fun _ => false) (fun _ => 0) (fun _ => True) _ [1, 2] _ (h.below hb h.lt) (by omega) (slR_lit w 5 (fun _ => True) [1, 2] #[.int .u8 1, .int .u8 2] 2 rfl rfl (by simp) (fun _ _ => trivial)) (hT.below hb) (by omega) (by omega) (by simp) hcode).mono
    fun e w' h => ⟨h.1, put_two_ok h.2.1, h.2.2⟩
end Go.Proofs.YtcfjcoockklkeaaGreatDoor
