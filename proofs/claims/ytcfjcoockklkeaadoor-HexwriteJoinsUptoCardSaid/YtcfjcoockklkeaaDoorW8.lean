/-
  hexwrite.records: the records that it yields. Conditions: the size in its range.
-/
import Derived.Test.YtcfjcoockklkeaaDoorW7
namespace Go.Proofs.YtcfjcoockklkeaaDoor
open Go.RowKit
attribute [local go_sem] Oper.semAt_some

/-- a record that is yielded: its data, and where they lie -/
structure YRec where
  t : Nat
  a : Nat
  l : List UInt8
  sa : Option Addr
  sc : Nat
def encY (x : YRec) : Array Value := #[.agg #[.int .i64 x.t, .int .i64 x.a, .slice x.sa x.l.length x.sc]]
def specY (x : YRec) : Nat × Nat × List UInt8 := (x.t, x.a, x.l)
def dataRec (r : Nat × List UInt8) : Nat × Nat × List UInt8 := (0, r.1, r.2)
def allRecs (n : Nat) (R : List (Nat × List UInt8)) : List (Nat × Nat × List UInt8) := (recs n R).map dataRec ++ [(1, 0, [])]
def dataTs : List TypeId := [46, 5, 79]
/-- no row of strings, no variable that holds one -/
def notStr (_ : Nat) (o : Obj) : Prop := ∀ cs t fr, o = .cells cs t fr → t ≠ 9 ∧ t ≠ 33
theorem dataTs_ok {t : TypeId} (h : t ∈ dataTs) : t ≠ 9 ∧ t ≠ 33 := by
  simp [dataTs] at h
  rcases h with rfl | rfl | rfl <;> decide
theorem SlR.tk {α : Type} {R : Rep α} {w w' : World} {v : Value} {xs : List α} (h : SlR R w (TyB w dataTs) v xs) (hT : Tk notStr w w') : SlR R w' (TyB w' dataTs) v xs := by
  have hsame : ∀ k, TyB w dataTs k → w'.heap[k]? = w.heap[k]? := fun k hk => by
    obtain ⟨cs, t, ht, hk⟩ := hk
    exact (hT k _ (fun cs2 t2 fr2 e => by injection e with _ e _; subst e; exact dataTs_ok ht) hk rfl).trans hk.symm
  exact (h.keep hsame).mono (fun k hk => hk.same (hsame k hk))
theorem SlR.tb {α : Type} {R : Rep α} {w w' : World} {ts : List TypeId} {v : Value} {xs : List α} (h : SlR R w (TyB w ts) v xs) (hb : Below w.heap.size w w') : SlR R w' (TyB w' ts) v xs :=
  (h.keep (fun k hk => hb.block k hk.lt)).mono (fun k hk => hk.same (hb.block k hk.lt))
theorem OwnL.slD {α : Type} {R : Rep α} {w : World} {B : Nat} {e : TypeId} {v : Value} {xs : List α} (h : OwnL R w B e v xs) (he : e ∈ dataTs) : SlR R w (TyB w dataTs) v xs :=
  h.slT.mono (fun k ⟨_, cs, t, ht, hk⟩ => ⟨cs, t, by simp at ht; rcases ht with rfl | rfl; exact he; simp [dataTs], hk⟩)
def RxY (n : Nat) (R : List (Nat × List UInt8)) (pre : List YRec) (x : YRec) (W : World) : Prop :=
  (∃ r, (pre.map specY ++ [specY x]) ++ r = allRecs n R) ∧ SlR byteR W (TyB W dataTs) (.slice x.sa x.l.length x.sc) x.l
/-- between two runs -/
structure YH (n : Nat) (R : List (Nat × List UInt8)) (J : List YRec → World → Prop) (bN : Nat) (v9 : Value) (done : List (Nat × List UInt8)) (pre : List YRec) (w : World) : Prop where
  j : J pre w
  all : pre.map specY = done.map dataRec
  num : Blk w bN 3 #[.int .i64 n]
  runs : SlR runR w (TyB w dataTs) v9 R
theorem YH.later {n : Nat} {R : List (Nat × List UInt8)} {J : List YRec → World → Prop} {bN : Nat} {v9 : Value} {done : List (Nat × List UInt8)} {pre : List YRec} {w w' : World} (h : YH n R J bN v9 done pre w)
    (hJ : ∀ s A B, J s A → Below A.heap.size A B → J s B) (hb : Below w.heap.size w w') : YH n R J bN v9 done pre w' :=
  ⟨hJ _ _ _ h.j hb, h.all, h.num.below hb h.num.lt, h.runs.tb hb⟩
theorem YH.next {n : Nat} {R : List (Nat × List UInt8)} {J : List YRec → World → Prop} {bN : Nat} {v9 : Value} {done : List (Nat × List UInt8)} {pre : List YRec} {w w' : World} {x : YRec} {r : Nat × List UInt8} (h : YH n R J bN v9 done pre w)
    (hx : specY x = dataRec r) (hj : J (pre ++ [x]) w') (hT : Tk notStr w w') : YH n R J bN v9 (done ++ [r]) (pre ++ [x]) w' :=
  ⟨hj, by rw [List.map_append, List.map_append, h.all, List.map_singleton, hx]; rfl, hT.blk h.num (fun cs t fr e => by injection e with _ e _; subst e; decide), h.runs.tk hT⟩
theorem recs_take {n : Nat} {R : List (Nat × List UInt8)} {k : Nat} (hk : k < R.length) : recs n (R.take (k + 1)) = recs n (R.take k) ++ splitL n R[k].1 R[k].2 := by
  rw [List.take_succ_eq_append_getElem hk]
  unfold recs
  rw [List.flatMap_append]
  simp
theorem recs_pre {n : Nat} {R : List (Nat × List UInt8)} {k q : Nat} (hk : k < R.length) (hq : q < (splitL n R[k].1 R[k].2).length) : ∃ r, (recs n (R.take k) ++ (splitL n R[k].1 R[k].2).take q).map dataRec ++ [dataRec (splitL n R[k].1 R[k].2)[q]] ++ r = allRecs n R := by
  have h1 : recs n R = recs n (R.take (k + 1)) ++ recs n (R.drop (k + 1)) := by
    unfold recs
    rw [← List.flatMap_append, List.take_append_drop]
  have h2 : splitL n R[k].1 R[k].2 = (splitL n R[k].1 R[k].2).take q ++ [(splitL n R[k].1 R[k].2)[q]] ++ (splitL n R[k].1 R[k].2).drop (q + 1) := by
    rw [← List.take_succ_eq_append_getElem hq, List.take_append_drop]
  have h3 : (recs n R).map dataRec = (recs n (R.take k) ++ (splitL n R[k].1 R[k].2).take q).map dataRec ++ [dataRec (splitL n R[k].1 R[k].2)[q]] ++ (((splitL n R[k].1 R[k].2).drop (q + 1)).map dataRec ++ (recs n (R.drop (k + 1))).map dataRec) := by
    rw [h1, recs_take hk, List.map_append, List.map_append]
    have h4 := congrArg (List.map dataRec) h2
    rw [List.map_append, List.map_append] at h4
    rw [h4]
    simp only [List.map_append, List.map_singleton, List.append_assoc]
  refine ⟨((splitL n R[k].1 R[k].2).drop (q + 1)).map dataRec ++ (recs n (R.drop (k + 1))).map dataRec ++ [(1, 0, [])], ?_⟩
  unfold allRecs
  rw [h3]
  simp only [List.append_assoc]
set_option maxHeartbeats 4000000 in
set_option maxRecDepth 100000 in
theorem records_seq (n : Nat) (R : List (Nat × List UInt8)) (mo : Option Addr) (bM bN : Nat) (w : World) (hM : Blk w bM 23 #[.pointer mo]) (hN : Blk w bN 3 #[.int .i64 n]) (hI : ImgV w (.pointer mo) R) (hT : Deb w) (hn : 1 ≤ n) (hn2 : n ≤ 255) (hRl : R.length ≤ 65536) :
    MemSeq Fence.wide 8 Tryd.prog 115 #[.pointer (some ⟨bM, 0, none⟩), .pointer (some ⟨bN, 0, none⟩)] encY (Tk notStr) (RxY n R) (fun xs => xs.map specY = allRecs n R) w := by
  intro l J W hW hJ hY h0
  have hM' := hM.below hW hM.lt
  have hN' := hN.below hW hN.lt
  have HRV := Lib.hid (RunsV_any _ R W (hI.below hW) (hT.below hW))
  have HSEP := Lib.hid hI.sep
  have HJ := Lib.hid hJ
  have HY := Lib.hid hY
  have H0 := Lib.hid h0
  have HN := Lib.hid hN'
  have c1 := hM'.cell 0
  have hR1 : (R.length : Int) ≤ 65536 := by omega
  clear hM hN hI hT hW hJ hY h0 hM' hN' hRl
  refine callsIn_of_wp Tryd.func115 rfl trivial ?_ rfl
  simp only [Tryd.ntmps115, List.size_toArray, List.length_cons, List.length_nil, Nat.reduceAdd, Nat.reduceSub, Array.replicate_succ, Array.replicate_zero, List.push_toArray, List.append_toArray, List.nil_append, List.cons_append]
  gi_wp2_with (refine ⟨trivial, ?_⟩; gi_at_call 47; refine (callsIn_wide.2 HRV.out).mono ?_; rintro e w1 ⟨v9, rfl, ho, hb⟩; have HO := Lib.hid ho; have HB := Lib.hid hb; obtain ⟨a9, c9, rfl⟩ := ho.form; clear ho hb)
  have HST : Hid (YH n R J bN (.slice a9 R.length c9) (recs n (R.take 0)) [] w1) := ⟨HJ.out _ _ _ H0.out HB.out, rfl, HN.out.below HB.out HN.out.lt, HO.out.slD (by simp [dataTs])⟩
  gi_loopw [11] (fun i wr => ∃ (k : Nat) (pre : List YRec), k ≤ R.length ∧ i = .int .i64 k ∧ YH n R J bN (.slice a9 R.length c9) (recs n (R.take k)) pre wr) (fun i _ => R.length - (intOf i).toNat)
  case atStart => exact ⟨0, [], Nat.zero_le _, rfl, HST.out⟩
  case round =>
    obtain ⟨k, pre, hk, rfl, hh⟩ := hrel
    have HH := Lib.hid hh
    have c2 := hh.num.cell 0
    clear hh
    by_cases hlt : k < R.length
    · obtain ⟨ad, cd, hv, _, _, g⟩ := HH.out.runs.run
      obtain ⟨rfl, _, rfl⟩ : a9 = ad ∧ R.length = R.length ∧ c9 = cd := by injection hv with h1 h2 h3; exact ⟨h1, h2, h3⟩
      obtain ⟨b1, o1, sa, sc, rfl, hb1, d0, d1, hsl⟩ := g k R[k] (List.getElem?_eq_getElem hlt)
      have HSL := Lib.hid hsl
      have hb1l : b1 < wr.heap.size := World.block_lt_of_cell? _ _ d0
      have hbNl : bN < wr.heap.size := HH.out.num.lt
      have hse := sep_le HSEP.out R[k] (List.getElem_mem hlt)
      have HS1 := Lib.hid hse.1
      have HS2 := Lib.hid hse.2
      have HTK := Lib.hid (recs_take (n := n) hlt)
      have HPR := Lib.hid (fun q => recs_pre (n := n) (q := q) hlt)
      clear g hv hsl hb1 hse
      have hr1 : (R[k].1 : Int) ≤ 65536 := by have := HS1.out; omega
      generalize R[k] = r at *
      have hr0 : (0 : Int) ≤ (r.1 : Int) := by omega
      have HBA : Hid (Below wr.heap.size wr (wr.alloc (.cells #[.int .i64 r.1, .slice sa r.2.length sc] 79))) := (Below.refl _ wr).alloc (Nat.le_refl _) _
      have HSP := Lib.hid (Split_in n r.1 _ _ r.2 _ (HSL.out.tb HBA.out) hn hn2 (by have := HS1.out; have := List.length_pos_iff.2 HS2.out; omega) HS1.out HS2.out)
      gi_wp2_with (refine ⟨trivial, ?_⟩; gi_at_call 116; refine (callsIn_wide.2 HSP.out).mono ?_; rintro e w2 ⟨v20, rfl, ho, hb⟩; have HB2 := Lib.hid (HBA.out.trans (hb.mono HBA.out.size)); have HO2 := Lib.hid (ho.slD (by simp [dataTs])); obtain ⟨a20, c20, rfl⟩ := ho.form; clear ho hb)
      have HST2 : Hid (YH n R J bN (.slice (some ⟨b1, o1, none⟩) R.length c9) (recs n (R.take k) ++ (splitL n r.1 r.2).take 0) pre w2) := by
        rw [List.take_zero, List.append_nil]
        exact HH.out.later HJ.out HB2.out
      have HSLN : Hid ((splitL n r.1 r.2).length ≤ 65536) := by show _ ≤ _; have := splitL_le (n := n) (by omega) r.1 r.2; have := HS1.out; omega
      have HSM := Lib.hid (splitL_mem (n := n) (by omega) r.2.length r.1 r.2 (Nat.le_refl _))
      generalize splitL n r.1 r.2 = S at *
      have hS1 : (S.length : Int) ≤ 65536 := by have := HSLN.out; omega
      clear d0 d1 c2
      gi_loopw [22] (fun i wx => ∃ (q : Nat) (pre' : List YRec), q ≤ S.length ∧ i = .int .i64 q ∧ YH n R J bN (.slice (some ⟨b1, o1, none⟩) R.length c9) (recs n (R.take k) ++ S.take q) pre' wx ∧ SlR recR wx (TyB wx dataTs) (.slice a20 S.length c20) S) (fun i _ => S.length - (intOf i).toNat)
      case atStart => exact ⟨0, pre, Nat.zero_le _, rfl, HST2.out, HO2.out⟩
      case round =>
        obtain ⟨q, pre', hq, rfl, hh, hsr⟩ := hrel
        have HH2 := Lib.hid hh
        have HSR := Lib.hid hsr
        clear hh hsr
        by_cases hqt : q < S.length
        · obtain ⟨ad, cd, hv, _, _, g⟩ := HSR.out.rec_
          obtain ⟨rfl, _, rfl⟩ : a20 = ad ∧ S.length = S.length ∧ c20 = cd := by injection hv with h1 h2 h3; exact ⟨h1, h2, h3⟩
          obtain ⟨b2, o2, sa2, sc2, rfl, hb2, d0, d1, d2, hsl2⟩ := g q S[q] (List.getElem?_eq_getElem hqt)
          have HSL2 := Lib.hid hsl2
          have HPX := Lib.hid (HPR.out q hqt)
          have HTK2 := Lib.hid (List.take_succ_eq_append_getElem hqt)
          have hsm := HSM.out S[q] (List.getElem_mem hqt)
          have hx1 : (S[q].1 : Int) ≤ 65536 := by have := HS1.out; omega
          clear g hv hsl2 hb2 hsm
          generalize S[q] = x at *
          have hx0 : (0 : Int) ≤ (x.1 : Int) := by omega
          have HBX : Hid (Below wr.heap.size wr (wr.alloc (.cells #[.int .i64 0, .int .i64 x.1, .slice sa2 x.2.length sc2] 46))) := (Below.refl _ wr).alloc (Nat.le_refl _) _
          have HH3 := Lib.hid (HH2.out.later HJ.out HBX.out)
          obtain ⟨fn, tmps, assign, body, hy, hR⟩ := HY.out pre' ⟨0, x.1, x.2, sa2, sc2⟩ _ HH3.out.j ⟨by rw [HH3.out.all]; exact HPX.out, HSL2.out.tb HBX.out⟩
          have HR := Lib.hid hR
          dsimp only [encY] at hy
          rw [show (((0 : Nat)) : Int) = 0 from rfl] at hy
          clear hR
          gi_wp2_with fail
          refine HR.out.mono ?_
          rintro e W' ⟨rfl, hj, hTk⟩
          have HH4 := Lib.hid (HH3.out.next (r := x) rfl hj hTk)
          have HSR4 := Lib.hid ((HSR.out.tb HBX.out).tk hTk)
          clear hj hTk hy d0 d1 d2
          gi_wp2
          go_roundw
          case rel => exact ⟨q + 1, pre' ++ [⟨0, x.1, x.2, sa2, sc2⟩], by omega, by go_num, by rw [HTK2.out, ← List.append_assoc]; exact HH4.out, HSR4.out⟩
          case measure => simp [intOf]; omega
        · obtain rfl : q = S.length := by omega
          have HH5 := HH2.out
          rw [List.take_length, ← HTK.out] at HH5
          have HH6 := Lib.hid HH5
          clear HH5
          gi_wp2
          go_roundw
          case rel => exact ⟨k + 1, pre', by omega, by go_num, HH6.out⟩
          case measure => simp [intOf]; omega
    · obtain rfl : k = R.length := by omega
      have HH5 := HH.out
      rw [List.take_length] at HH5
      have HH6 := Lib.hid HH5
      obtain ⟨fn, tmps, assign, body, hy, hR⟩ := HY.out pre ⟨1, 0, [], none, 0⟩ wr HH6.out.j ⟨⟨[], by rw [HH6.out.all, List.append_nil]; rfl⟩, SlR.nil _ _ _⟩
      have HR := Lib.hid hR
      have hy : (Instr.yield l #[Value.agg #[.int .i64 1, .int .i64 0, .slice none 0 0]]).run Tryd.prog wr = .ok (.round l fn tmps assign body) wr := hy
      clear hR HH5 c2
      gi_wp2_with fail
      refine HR.out.mono ?_
      rintro e W' ⟨rfl, hj, _⟩
      have HJE := Lib.hid hj
      clear hj hy
      gi_wp2
      go_end0
      exact ⟨⟨_, rfl⟩, _, by rw [List.map_append, HH6.out.all]; rfl, HJE.out⟩
end Go.Proofs.YtcfjcoockklkeaaDoor
