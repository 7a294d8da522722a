/-
  hexread's reader: line, whole. Conditions: the line's size; the library's table as its initialiser lays it.
-/
import Derived.Test.YtcfjcoockklkeaaGreatDoorV17
namespace Go.Proofs.YtcfjcoockklkeaaGreatDoor
open Go.RowKit

theorem recH_one (S : ImgS) (a : Nat) (l : List UInt8) : recH (S, false) ⟨1, a, l⟩ = if l = [] then (0, (S, true)) else (6, (S, false)) := rfl
set_option maxHeartbeats 4000000 in
set_option maxRecDepth 100000 in
theorem line_data (w0 : World) (rb ib n : Nat) (S : ImgS) (s : ByteArray) (a : Nat) (l : List UInt8) (w : World) (h : RdS w0 w rb ib S false n) (hs : s.size ≤ 1000000000) (hT : Deb w) (hn : n ≤ 900000000) (hbl : blankL (trimCR s.data.toList) = false) (hp : parseH (trimCR s.data.toList) = (0, ⟨0, a, l⟩)) :
    Calls Tryz.prog 21 #[.pointer (some ⟨rb, 0, none⟩), .string s] w (LineP w0 w rb ib n (S, false) s.data.toList) := by
  have hbd := parse_bd (l := trimCR s.data.toList)
  rw [hp] at hbd
  have hbd2 : a ≤ 65535 := hbd.2.1
  have hbd3 : l.length ≤ 255 := hbd.2.2
  have HSTP : Hid (stepH (S, false) s.data.toList = recH (S, false) ⟨0, a, l⟩) := by
    show _ = _
    unfold stepH
    rw [hbl, hp]; rfl
  have HR := Lib.hid h
  have HTS := Lib.hid (fun W => TrimSuf13 s W (by omega))
  have htl := trimCR_len s.data.toList
  have hsl : s.data.toList.length = s.size := by simp
  generalize s.data.toList = x at *
  obtain ⟨ln, hln⟩ : ∃ ln : ByteArray, ln = ⟨(trimCR x).toArray⟩ := ⟨_, rfl⟩
  rw [← hln] at HTS
  have hld : ln.data.toList = trimCR x := by rw [hln]
  have hlsz : ln.size ≤ 1000000000 := by
    have : ln.data.toList.length = ln.size := by simp
    rw [hld] at this
    omega
  have GTN := Lib.hid (fun W => Trim_no ln W (by omega) (by rw [hld]; exact hbl))
  have HPA := Lib.hid (fun W => Parse_at ln (trimCR x) W hld hlsz)
  rw [hp] at HPA
  have HPZ : Hid (∀ W, Calls Tryz.prog 46 #[.string ln] W fun e w' => ∃ sa sc, e = .returned (.tuple #[.agg #[.int .i64 0, .int .i64 a, .slice sa l.length sc], .int .i64 0]) ∧ SlR byteR w' (fun k => W.heap.size ≤ k) (.slice sa l.length sc) l ∧ Below W.heap.size W w') := HPA.out
  have HDC := Lib.hid (fun (q : Blocks) (vb : Value) (W : World) (hr : RdS w0 W rb ib S false n) (hv : SlR byteR W q vb l) (hD : Deb W) => data_any w0 rb ib n S false 0 a q vb l W hr hv hD hn hbd2 hbd3)
  have hmf : ∀ (fn : Fn) (first cap : Array Value) (w : World), (Instr.makeFunc fn first cap).run Tryz.prog w = .ok (.func fn first cap) w := fun _ _ _ _ => rfl
  obtain ⟨d0, d1, _, _⟩ := h.blk.two
  have HLT : Hid (rb < w.heap.size) := h.blk.lt
  have HIL : Hid (ib < w.heap.size) := h.img.lt
  have HT := Lib.hid hT
  clear hln hld hlsz htl hs hsl h hbl hp hbd hbd2 hbd3 HPA hT hn
  go_enter Tryz.func21, Tryz.ntmps21
  go_upto_region 12 with (first
    | (go_at_call 44; refine (HTS.out _).mono ?_; rintro e w2 ⟨rfl, rfl⟩)
    | (go_at_call 45; refine (GTN.out _).mono ?_; rintro e w3 ⟨tt, htt, rfl, hb⟩; have HB3 := Lib.hid hb; have d1' := (hb.cell (p := ⟨rb, 1, none⟩) HLT.out).trans d1; clear hb)
    | (go_at_call 46; refine (HPZ.out _).mono ?_; rintro e w4 ⟨sa, sc, rfl, hsl, hb⟩; have HSL4 := Lib.hid hsl; have HB4 := Lib.hid (HB3.out.trans (hb.mono HB3.out.size)); clear hb hsl))
  have HBX : Hid (Below w.heap.size w ((w4.alloc (.cells #[.int .i64 0, .int .i64 (a : Int), .slice sa l.length sc] 98)).alloc (.cells #[.func (.func 47) #[.pointer (some ⟨rb, 0, none⟩)] #[], .func (.func 48) #[.pointer (some ⟨rb, 0, none⟩)] #[]] 102)).drew) := ((HB4.out.alloc HB4.out.size _).alloc (by rw [World.size_alloc]; exact Nat.le_succ_of_le HB4.out.size) _).drew
  have HSX : Hid (SlR byteR ((w4.alloc (.cells #[.int .i64 0, .int .i64 (a : Int), .slice sa l.length sc] 98)).alloc (.cells #[.func (.func 47) #[.pointer (some ⟨rb, 0, none⟩)] #[], .func (.func 48) #[.pointer (some ⟨rb, 0, none⟩)] #[]] 102)).drew _ (.slice sa l.length sc) l) := ((HSL4.out.alloc _).alloc _).drew
  have hw4 : w.heap.size ≤ w4.heap.size := HB4.out.size
  have HSZ : Hid ((((w4.alloc (.cells #[.int .i64 0, .int .i64 (a : Int), .slice sa l.length sc] 98)).alloc (.cells #[.func (.func 47) #[.pointer (some ⟨rb, 0, none⟩)] #[], .func (.func 48) #[.pointer (some ⟨rb, 0, none⟩)] #[]] 102)).drew).heap.size = w4.heap.size + 2) := by show (World.alloc _ _).heap.size = _; rw [World.size_alloc, World.size_alloc]
  have HC0 : Hid ((((w4.alloc (.cells #[.int .i64 0, .int .i64 (a : Int), .slice sa l.length sc] 98)).alloc (.cells #[.func (.func 47) #[.pointer (some ⟨rb, 0, none⟩)] #[], .func (.func 48) #[.pointer (some ⟨rb, 0, none⟩)] #[]] 102)).drew).heap[w4.heap.size]? = some (.cells #[.int .i64 0, .int .i64 (a : Int), .slice sa l.length sc] 98 (0, 0))) := (Blk.new w4 _ _).alloc _
  have HC1 : Hid ((((w4.alloc (.cells #[.int .i64 0, .int .i64 (a : Int), .slice sa l.length sc] 98)).alloc (.cells #[.func (.func 47) #[.pointer (some ⟨rb, 0, none⟩)] #[], .func (.func 48) #[.pointer (some ⟨rb, 0, none⟩)] #[]] 102)).drew).heap[w4.heap.size + 1]? = some (.cells #[.func (.func 47) #[.pointer (some ⟨rb, 0, none⟩)] #[], .func (.func 48) #[.pointer (some ⟨rb, 0, none⟩)] #[]] 102 (0, 0))) := by
    have := Blk.new (w4.alloc (.cells #[.int .i64 0, .int .i64 (a : Int), .slice sa l.length sc] 98)) 102 #[.func (.func 47) #[.pointer (some ⟨rb, 0, none⟩)] #[], .func (.func 48) #[.pointer (some ⟨rb, 0, none⟩)] #[]]
    rw [World.size_alloc] at this
    exact this
  go_region_held3 (fun w' => w'.cell? ⟨w4.heap.size, 0, none⟩ = some (.int .i64 0) ∧ w'.cell? ⟨w4.heap.size, 1, none⟩ = some (.int .i64 (a : Int)) ∧ w'.cell? ⟨w4.heap.size, 2, none⟩ = some (.slice sa l.length sc) ∧ w'.cell? ⟨w4.heap.size + 1, 0, none⟩ = some (.func (.func 47) #[.pointer (some ⟨rb, 0, none⟩)] #[])) (go_keep)
    (first
      | (go_at_call 47; refine (HDC.out _ _ _ (HR.out.later HBX.out) HSX.out (HT.out.below HBX.out)).mono ?_; rintro e w6 ⟨rfl, hr, hg⟩; have HR6 := Lib.hid hr; have HG6 := Lib.hid hg; have b0 := hg.block w4.heap.size (by rw [HSZ.out]; omega) (fun e => by injection e with e; have := HIL.out; have := HLT.out; omega); have b1 := hg.block (w4.heap.size + 1) (by rw [HSZ.out]; omega) (fun e => by injection e with e; have := HIL.out; have := HLT.out; omega); have k0 : Blk w6 w4.heap.size _ _ := b0.trans HC0.out; have k1 : Blk w6 (w4.heap.size + 1) _ _ := b1.trans HC1.out; have q0 := k0.cell 0; have q1 := k0.cell 1; have q2 := k0.cell 2; have q3 := k1.cell 0; clear hr hg b0 b1 k0 k1))
  go_wp2
  go_ret
  refine ⟨?_, ?_, KeptRd.img HBX.out HG6.out⟩
  · rw [HSTP.out]; rfl
  · rw [HSTP.out]; exact HR6.out
set_option maxHeartbeats 4000000 in
set_option maxRecDepth 100000 in
theorem line_end (w0 : World) (rb ib n : Nat) (S : ImgS) (s : ByteArray) (a : Nat) (l : List UInt8) (w : World) (h : RdS w0 w rb ib S false n) (hs : s.size ≤ 1000000000) (hbl : blankL (trimCR s.data.toList) = false) (hp : parseH (trimCR s.data.toList) = (0, ⟨1, a, l⟩)) :
    Calls Tryz.prog 21 #[.pointer (some ⟨rb, 0, none⟩), .string s] w (LineP w0 w rb ib n (S, false) s.data.toList) := by
  have hbd := parse_bd (l := trimCR s.data.toList)
  rw [hp] at hbd
  have hbd2 : a ≤ 65535 := hbd.2.1
  have hbd3 : l.length ≤ 255 := hbd.2.2
  have HSTP : Hid (stepH (S, false) s.data.toList = recH (S, false) ⟨1, a, l⟩) := by
    show _ = _
    unfold stepH
    rw [hbl, hp]; rfl
  have HR := Lib.hid h
  have HTS := Lib.hid (fun W => TrimSuf13 s W (by omega))
  have htl := trimCR_len s.data.toList
  have hsl : s.data.toList.length = s.size := by simp
  generalize s.data.toList = x at *
  obtain ⟨ln, hln⟩ : ∃ ln : ByteArray, ln = ⟨(trimCR x).toArray⟩ := ⟨_, rfl⟩
  rw [← hln] at HTS
  have hld : ln.data.toList = trimCR x := by rw [hln]
  have hlsz : ln.size ≤ 1000000000 := by
    have : ln.data.toList.length = ln.size := by simp
    rw [hld] at this
    omega
  have GTN := Lib.hid (fun W => Trim_no ln W (by omega) (by rw [hld]; exact hbl))
  have HPA := Lib.hid (fun W => Parse_at ln (trimCR x) W hld hlsz)
  rw [hp] at HPA
  have HPZ : Hid (∀ W, Calls Tryz.prog 46 #[.string ln] W fun e w' => ∃ sa sc, e = .returned (.tuple #[.agg #[.int .i64 1, .int .i64 a, .slice sa l.length sc], .int .i64 0]) ∧ SlR byteR w' (fun k => W.heap.size ≤ k) (.slice sa l.length sc) l ∧ Below W.heap.size W w') := HPA.out
  obtain ⟨cd, hcd⟩ : ∃ cd : Int, cd = if l = [] then 0 else 6 := ⟨_, rfl⟩
  obtain ⟨fl, hfl⟩ : ∃ fl : Bool, fl = if l = [] then true else false := ⟨_, rfl⟩
  have HDC : Hid (∀ (q : Blocks) (vb : Value) (W : World), RdS w0 W rb ib S false n → SlR byteR W q vb l → Calls Tryz.prog 48 #[.pointer (some ⟨rb, 0, none⟩), .agg #[.int .i64 (1 : Nat), .int .i64 a, vb]] W fun e w' => e = .returned (.int .i64 cd) ∧ RdS w0 w' rb ib S fl n ∧ W.grownBy w' (some rb)) := by
    rw [hcd, hfl]
    exact fun q vb W hr hv => end_any w0 rb ib n S false 1 a q vb l W hr hv hbd3
  have HCD := Lib.hid hcd
  have HFL := Lib.hid hfl
  clear hcd hfl
  have hmf : ∀ (fn : Fn) (first cap : Array Value) (w : World), (Instr.makeFunc fn first cap).run Tryz.prog w = .ok (.func fn first cap) w := fun _ _ _ _ => rfl
  obtain ⟨d0, d1, _, _⟩ := h.blk.two
  have HLT : Hid (rb < w.heap.size) := h.blk.lt
  have HIL : Hid (ib < w.heap.size) := h.img.lt

  clear hln hld hlsz htl hs hsl h hbl hp hbd hbd2 hbd3 HPA
  go_enter Tryz.func21, Tryz.ntmps21
  go_upto_region 12 with (first
    | (go_at_call 44; refine (HTS.out _).mono ?_; rintro e w2 ⟨rfl, rfl⟩)
    | (go_at_call 45; refine (GTN.out _).mono ?_; rintro e w3 ⟨tt, htt, rfl, hb⟩; have HB3 := Lib.hid hb; have d1' := (hb.cell (p := ⟨rb, 1, none⟩) HLT.out).trans d1; clear hb)
    | (go_at_call 46; refine (HPZ.out _).mono ?_; rintro e w4 ⟨sa, sc, rfl, hsl, hb⟩; have HSL4 := Lib.hid hsl; have HB4 := Lib.hid (HB3.out.trans (hb.mono HB3.out.size)); clear hb hsl))
  have HBX : Hid (Below w.heap.size w ((w4.alloc (.cells #[.int .i64 1, .int .i64 (a : Int), .slice sa l.length sc] 98)).alloc (.cells #[.func (.func 47) #[.pointer (some ⟨rb, 0, none⟩)] #[], .func (.func 48) #[.pointer (some ⟨rb, 0, none⟩)] #[]] 102)).drew) := ((HB4.out.alloc HB4.out.size _).alloc (by rw [World.size_alloc]; exact Nat.le_succ_of_le HB4.out.size) _).drew
  have HSX : Hid (SlR byteR ((w4.alloc (.cells #[.int .i64 1, .int .i64 (a : Int), .slice sa l.length sc] 98)).alloc (.cells #[.func (.func 47) #[.pointer (some ⟨rb, 0, none⟩)] #[], .func (.func 48) #[.pointer (some ⟨rb, 0, none⟩)] #[]] 102)).drew _ (.slice sa l.length sc) l) := ((HSL4.out.alloc _).alloc _).drew
  have hw4 : w.heap.size ≤ w4.heap.size := HB4.out.size
  have HSZ : Hid ((((w4.alloc (.cells #[.int .i64 1, .int .i64 (a : Int), .slice sa l.length sc] 98)).alloc (.cells #[.func (.func 47) #[.pointer (some ⟨rb, 0, none⟩)] #[], .func (.func 48) #[.pointer (some ⟨rb, 0, none⟩)] #[]] 102)).drew).heap.size = w4.heap.size + 2) := by show (World.alloc _ _).heap.size = _; rw [World.size_alloc, World.size_alloc]
  have HC0 : Hid ((((w4.alloc (.cells #[.int .i64 1, .int .i64 (a : Int), .slice sa l.length sc] 98)).alloc (.cells #[.func (.func 47) #[.pointer (some ⟨rb, 0, none⟩)] #[], .func (.func 48) #[.pointer (some ⟨rb, 0, none⟩)] #[]] 102)).drew).heap[w4.heap.size]? = some (.cells #[.int .i64 1, .int .i64 (a : Int), .slice sa l.length sc] 98 (0, 0))) := (Blk.new w4 _ _).alloc _
  have HC1 : Hid ((((w4.alloc (.cells #[.int .i64 1, .int .i64 (a : Int), .slice sa l.length sc] 98)).alloc (.cells #[.func (.func 47) #[.pointer (some ⟨rb, 0, none⟩)] #[], .func (.func 48) #[.pointer (some ⟨rb, 0, none⟩)] #[]] 102)).drew).heap[w4.heap.size + 1]? = some (.cells #[.func (.func 47) #[.pointer (some ⟨rb, 0, none⟩)] #[], .func (.func 48) #[.pointer (some ⟨rb, 0, none⟩)] #[]] 102 (0, 0))) := by
    have := Blk.new (w4.alloc (.cells #[.int .i64 1, .int .i64 (a : Int), .slice sa l.length sc] 98)) 102 #[.func (.func 47) #[.pointer (some ⟨rb, 0, none⟩)] #[], .func (.func 48) #[.pointer (some ⟨rb, 0, none⟩)] #[]]
    rw [World.size_alloc] at this
    exact this
  go_region_held3 (fun w' => w'.cell? ⟨w4.heap.size, 0, none⟩ = some (.int .i64 1) ∧ w'.cell? ⟨w4.heap.size, 1, none⟩ = some (.int .i64 (a : Int)) ∧ w'.cell? ⟨w4.heap.size, 2, none⟩ = some (.slice sa l.length sc) ∧ w'.cell? ⟨w4.heap.size + 1, 1, none⟩ = some (.func (.func 48) #[.pointer (some ⟨rb, 0, none⟩)] #[])) (go_keep)
    (first
      | (go_at_call 48; refine (HDC.out _ _ _ (HR.out.later HBX.out) HSX.out).mono ?_; rintro e w6 ⟨rfl, hr, hg⟩; have HR6 := Lib.hid hr; have HG6 := Lib.hid hg; have b0 := hg.block w4.heap.size (by rw [HSZ.out]; omega) (fun e => by injection e with e; have := HIL.out; have := HLT.out; omega); have b1 := hg.block (w4.heap.size + 1) (by rw [HSZ.out]; omega) (fun e => by injection e with e; have := HIL.out; have := HLT.out; omega); have k0 : Blk w6 w4.heap.size _ _ := b0.trans HC0.out; have k1 : Blk w6 (w4.heap.size + 1) _ _ := b1.trans HC1.out; have q0 := k0.cell 0; have q1 := k0.cell 1; have q2 := k0.cell 2; have q3 := k1.cell 1; clear hr hg b0 b1 k0 k1))
  go_wp2
  go_ret
  refine ⟨?_, ?_, KeptRd.rd HBX.out HG6.out⟩
  · rw [HSTP.out, recH_one]
    show Ending.returned (Value.int .i64 cd) = _
    rw [HCD.out]
    by_cases hl : l = []
    · rw [if_pos hl, if_pos hl]; rfl
    · rw [if_neg hl, if_neg hl]; rfl
  · rw [HSTP.out, recH_one]
    have hr := HR6.out
    rw [HFL.out] at hr
    by_cases hl : l = []
    · rw [if_pos hl] at hr ⊢; exact ⟨n, by omega, hr⟩
    · rw [if_neg hl] at hr ⊢; exact ⟨n, by omega, hr⟩
theorem line_any (w0 : World) (rb ib n : Nat) (st : ImgS × Bool) (s : ByteArray) (w : World) (h : RdS w0 w rb ib st.1 st.2 n) (hs : s.size ≤ 1000000000) (hT : Deb w) (hn : n ≤ 900000000) :
    Calls Tryz.prog 21 #[.pointer (some ⟨rb, 0, none⟩), .string s] w (LineP w0 w rb ib n st s.data.toList) := by
  obtain ⟨S, en⟩ := st
  by_cases hc : blankL (trimCR s.data.toList) = true ∨ en = true ∨ (parseH (trimCR s.data.toList)).1 ≠ 0 ∨ 2 ≤ (parseH (trimCR s.data.toList)).2.t
  · exact line_rest w0 rb ib n S en s w h hs hc
  · have h1 : blankL (trimCR s.data.toList) = false := by
      cases hb : blankL (trimCR s.data.toList) with
      | true => exact absurd (.inl hb) hc
      | false => rfl
    have h2 : en = false := by
      cases hb : en with
      | true => exact absurd (.inr (.inl hb)) hc
      | false => rfl
    subst h2
    have h3 : (parseH (trimCR s.data.toList)).1 = 0 := by
      by_cases hq : (parseH (trimCR s.data.toList)).1 = 0
      · exact hq
      · exact absurd (.inr (.inr (.inl hq))) hc
    have h4 : ¬ 2 ≤ (parseH (trimCR s.data.toList)).2.t := fun hq => hc (.inr (.inr (.inr hq)))
    obtain ⟨pr, hpr⟩ : ∃ pr, pr = parseH (trimCR s.data.toList) := ⟨_, rfl⟩
    rw [← hpr] at h3 h4
    obtain ⟨pc, t, a, l⟩ := pr
    have h3 : pc = 0 := h3
    have h4 : ¬ 2 ≤ t := h4
    subst h3
    rcases (by omega : t = 0 ∨ t = 1) with rfl | rfl
    · exact line_data w0 rb ib n S s a l w h hs hT hn h1 hpr.symm
    · exact line_end w0 rb ib n S s a l w h hs h1 hpr.symm
end Go.Proofs.YtcfjcoockklkeaaGreatDoor
