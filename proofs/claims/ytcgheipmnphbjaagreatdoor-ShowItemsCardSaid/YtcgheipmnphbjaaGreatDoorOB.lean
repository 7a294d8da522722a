/-
  The printed forms of instructions, bytes, items, rows and tables, in plain words. Conditions: none. operand.Text and breadboardref06.Text. Conditions: the library's table as its initialiser lays it.
-/
import Derived.Test.YtcgheipmnphbjaaGreatDoorOA
import Derived.Test.YtcgheipmnphbjaaGreatDoorBS1
namespace Go.Proofs.YtcgheipmnphbjaaGreatDoor
open Go.RowKit Go.Shelf Go.Sort
def oBa (x:Ins):List UInt8:=if tI x=true then oEr x.op.data.toList (aE x).args else []
def oCk (x:It):List UInt8:=if x.k=1∧x.al=false then oBa ⟨⟨x.op.toArray⟩,x.args⟩ else oAq x.raw
def oEf (b:List UInt8):List UInt8:=Lib.join (b.map fun c=>qG c.toNat 2) [32]
def oEm (n:Nat):Nat:=if n+2≤12 then 12 - n else 2
def oDg (a:Int) (x:It):List UInt8:=
  if a < 0∨65535 < a then [] else qG a.toNat 4++[32,32]++oEf x.raw++List.replicate (oEm (oEf x.raw).length) 32++oCk x++(if x.al=true then [32,32,59,32]++oBa ⟨⟨x.op.toArray⟩,x.args⟩ else [])
def oGf:Int→List It→List UInt8
  | _,[]=>[]
  | a,x::r=>if a < 0∨65535 < a then [] else oDg a x++[10]++oGf (a+x.raw.length) r
theorem oBq {x:Ins} (h:bH x=0):∀y∈x.args,aC y=true:=by
  unfold bH at h
  split at h
  · cases h
  · split at h
    · cases h
    · split at h
      · rename_i h2
        exact fun y hy=>List.all_eq_true.1 h2 y hy
      · cases h
def chkI (p:Int) (x:Nat):Bool:=match (atF p x).1 with
  | some e=>decide (e.iop≠[])&&e.iop.all gdC
  | none=>true
theorem cki:∀p:Fin 7,∀x:Fin 256,chkI p.val x.val=true:=by decide+kernel
theorem oFf {x:Ins} (h:tI x=true):∃e,cQ x=(some e,0):=by
  have h0:(cQ x).2=0:=eq_of_beq h
  have h1:=findR_code.1 h0
  cases hR:cQ x with
  | mk o k=>
    rw [hR] at h0 h1
    cases o with
    | none=>cases h1
    | some e=>exact ⟨e,by dsimp only at h0;rw [h0]⟩
theorem oAz {x:Ins} (h:tI x=true):(∀o∈(aE x).args,aC o=true)∧gdL x.op.data.toList:=by
  obtain ⟨e,hR⟩:=oFf h
  obtain ⟨p,k,F⟩:=fnd11 hR
  have hv9:∀y∈(aE x).args,aC y=true:=oBq (x:=⟨⟨e.iop.toArray⟩,(aE x).args⟩) (F.fil.check F.ok)
  refine ⟨hv9,?_⟩
  have hc:=cki ⟨p,F.hp⟩ ⟨k,F.hk⟩
  unfold chkI at hc
  dsimp only at hc
  rw [F.at'] at hc
  dsimp only at hc
  obtain ⟨h1,h2⟩:=Bool.and_eq_true_iff.1 hc
  rw [F.iop]
  exact ⟨of_decide_eq_true h1,h2⟩
theorem oAr {x:Ins} (h:tI x=true):oBa x=oEr x.op.data.toList (aE x).args:=if_pos h
theorem oBu {x:Ins} (h:tI x=false):oBa x=[]:=if_neg (by rw [h];decide)
theorem oEa {x:Ins} (h:tI x=true):Lib.trimSuffix (x.op.data.toList++[32]++oBp (aE x).args) [32]=oBa x:=by
  rw [oAr h]
  exact oEc _ _ (oAz h).1
def lnL (l:List UInt8):Prop:=∀c∈l,32≤c.toNat
theorem oGa {c:UInt8} (h:gdC c=true):32≤c.toNat:=by
  unfold gdC at h
  have:=of_decide_eq_true (Bool.and_eq_true_iff.1 h).1
  omega
theorem gdL.ln {l:List UInt8} (h:gdL l):lnL l:=fun c hc=>oGa (List.all_eq_true.1 h.2 c hc)
theorem lnL.app {a b:List UInt8} (h:lnL a) (g:lnL b):lnL (a++b):=fun c hc=>(List.mem_append.1 hc).elim (h c) (g c)
theorem oBx {s:List UInt8} (hs:lnL s):∀{l:List (List UInt8)},(∀y∈l,lnL y)→lnL (Lib.join l s)
  | [],_=>fun c hc=>by cases hc
  | x::r,h=>by
    rw [Lib.join_cons]
    refine (h x List.mem_cons_self).app fun c hc=>?_
    unfold Lib.joinTail at hc
    obtain ⟨y,hy,hc⟩:=List.mem_flatten.1 hc
    obtain ⟨z,hz,rfl⟩:=List.mem_map.1 hy
    exact hs.app (h z (List.mem_cons_of_mem _ hz)) c hc
theorem oCa {c:UInt8} (h:32≤c.toNat):lnL [c]:=fun d hd=>by rw [List.mem_singleton.1 hd];exact h
theorem oBy (x:Ins):lnL (oBa x):=by
  cases h:tI x
  · rw [oBu h];intro c hc;cases hc
  · rw [oAr h]
    obtain ⟨h1,h2⟩:=oAz h
    unfold oEr
    split
    · exact h2.ln
    · refine h2.ln.app ((oCa (by decide)).app (oBx (oCa (by decide)) fun y hy=>?_))
      obtain ⟨o,ho,rfl⟩:=List.mem_map.1 hy
      exact (oEq (h1 o ho)).ln
theorem oBi (c:UInt8):gdL (oAc (c.toNat:Int)):=oAw (by omega) (by have:=c.toNat_lt;omega)
theorem oFg (b:List UInt8):lnL (oAq b):=by
  unfold oAq
  split
  · intro c hc;cases hc
  · refine lnL.app (fun c hc=>?_) (oBx (oCa (by decide)) fun y hy=>?_)
    · simp at hc
      rcases hc with rfl | rfl | rfl | rfl | rfl<;>decide
    · obtain ⟨o,_,rfl⟩:=List.mem_map.1 hy
      exact (oBi o).ln
theorem oEw (x:It):lnL (oCk x):=by
  unfold oCk
  split
  · exact oBy _
  · exact oFg _
theorem oDi (n k:Nat):lnL (qG n k):=fun c hc=>oGa (List.all_eq_true.1 (oAx k n) c hc)
theorem oEx (b:List UInt8):lnL (oEf b):=oBx (oCa (by decide)) fun y hy=>by
  obtain ⟨o,_,rfl⟩:=List.mem_map.1 hy
  exact oDi _ _
theorem oEy (a:Int) (x:It):lnL (oDg a x):=by
  unfold oDg
  split
  · intro c hc;cases hc
  · refine (((((oDi _ _).app fun c hc=>?_).app (oEx _)).app fun c hc=>?_).app (oEw x)).app ?_
    · simp at hc;subst hc;decide
    · rw [(List.mem_replicate.1 hc).2];decide
    · split
      · refine lnL.app (fun c hc=>?_) (oBy _)
        have h:∀d∈([32,32,59,32]:List UInt8),32≤d.toNat:=by decide
        exact h c hc
      · intro c hc;cases hc
theorem oFa {l:List UInt8} (h:lnL l):l.count 10=0:=List.count_eq_zero.2 fun hc=>absurd (h 10 hc) (by decide)
theorem oCs:∀(l:List It) (a:Int),(oGf a l).count 10≤l.length
  | [],_=>Nat.le_refl _
  | x::r,a=>by
    unfold oGf
    split
    · simp
    · rw [List.count_append,List.count_append,oFa (oEy a x)]
      have:=oCs r (a+x.raw.length)
      simp
      omega
theorem oGn {a:Int} {x:It}:oDg a x=[]↔a < 0∨65535 < a:=by
  unfold oDg
  constructor
  · intro h
    rcases Decidable.em (a < 0∨65535 < a) with g | g
    · exact g
    · rw [if_neg g] at h
      have:=congrArg List.length h
      simp [oAk] at this
  · intro h;rw [if_pos h]
theorem oFz {l:List UInt8} (h:l.all gdC=true):l.count 44=0:=List.count_eq_zero.2 fun hc=>absurd (List.all_eq_true.1 h 44 hc) (by decide)
theorem oDk:∀(b:List UInt8),(Lib.joinTail [44] (b.map fun (c:UInt8)=>oAc (c.toNat:Int))).count 44=b.length
  | []=>rfl
  | c::r=>by
    rw [List.map_cons]
    show ((([44]:List UInt8)++oAc (c.toNat:Int))++Lib.joinTail [44] (r.map fun (c:UInt8)=>oAc (c.toNat:Int))).count 44=_
    rw [List.count_append,List.count_append,oDk r,oFz (oBi c).2]
    simp
    omega
theorem oFe (b:List UInt8):(oAq b).count 44=b.length - 1:=by
  cases b with
  | nil=>rfl
  | cons c r=>
    unfold oAq
    rw [if_neg (List.cons_ne_nil _ _),List.map_cons,Lib.join_cons,List.count_append,List.count_append,oDk r,oFz (oBi c).2]
    simp
theorem datT_ne {b:List UInt8} (h:b≠[]):oAq b≠[]:=by unfold oAq;rw [if_neg h];simp
theorem insT_ne {x:Ins} (h:tI x=true):oBa x≠[]:=by
  rw [oAr h]
  have:=(oAz h).2.1
  unfold oEr
  split
  · exact this
  · simp [this]
end Go.Proofs.YtcgheipmnphbjaaGreatDoor
namespace Go.Proofs.YtcgheipmnphbjaaGreatDoor
set_option maxHeartbeats 2000000
set_option maxRecDepth 100000
open Go.RowKit Go.Shelf Go.Sort
theorem oAj (n:Int):(oAg n).length≤7:=by
  unfold oAg
  have h1:=oAa (-n)
  have h2:=oAa n
  split<;>simp<;>omega
theorem oAn {l:List UInt8} {k:Nat} (h:l.length≤k):(⟨l.toArray⟩:ByteArray).size≤k:=by show l.toArray.size≤k;rw [List.size_toArray];exact h
theorem oBs (n:Int) (h0:-65535≤n) (h1:n≤65535) (w:World) (hT:Deb w):Calls Tryz.prog 178 #[.int .i64 n] w fun e w'=>e=.returned (.string ⟨(oAg n).toArray⟩)∧RowKit.Below w.heap.size w w':=by
  by_cases hn:n < 0
  · have HX:=aA (oAp (-n) w hT)
    have hs:=oAn (Nat.le_trans (oAa (-n)) (by decide:6≤100))
    have HE:Hid ((⟨#[45]⟩++⟨(oAc (-n)).toArray⟩:ByteArray)=⟨(oAg n).toArray⟩):=aA (oAd (by rw [oAb];unfold oAg;rw [if_pos hn];rfl))
    generalize (⟨(oAc (-n)).toArray⟩:ByteArray)=S at *
    clear hT
    go_enter Tryz.func178,Tryz.ntmps178
    go_wp2_with (go_at_call 75;refine HX.out.mono ?_;rintro e w1 ⟨rfl,hb⟩;have HB:=aA hb;clear hb)
    go_ret
    exact ⟨oAs HE.out,HB.out⟩
  · have HX:=aA (oAp n w hT)
    have hs:=oAn (Nat.le_trans (oAa n) (by decide:6≤100))
    have HE:Hid ((⟨#[43]⟩++⟨(oAc n).toArray⟩:ByteArray)=⟨(oAg n).toArray⟩):=aA (oAd (by rw [oAb];unfold oAg;rw [if_neg hn];rfl))
    generalize (⟨(oAc n).toArray⟩:ByteArray)=S at *
    clear hT
    go_enter Tryz.func178,Tryz.ntmps178
    go_wp2_with (go_at_call 75;refine HX.out.mono ?_;rintro e w1 ⟨rfl,hb⟩;have HB:=aA hb;clear hb)
    go_ret
    exact ⟨oAs HE.out,HB.out⟩
theorem oAy (n:Int) (h0:-65535≤n) (h1:n≤65535) (w:World):Calls Tryz.prog 146 #[.int .i64 n] w fun e w'=>e=.returned (.string ⟨(oAg n).toArray⟩)∧w'=w:=by
  by_cases hn:n < 0
  · have HX:=aA (oAh (-n) w)
    have hs:=oAn (Nat.le_trans (oAa (-n)) (by decide:6≤100))
    have HE:Hid ((⟨#[45]⟩++⟨(oAc (-n)).toArray⟩:ByteArray)=⟨(oAg n).toArray⟩):=aA (oAd (by rw [oAb];unfold oAg;rw [if_pos hn];rfl))
    generalize (⟨(oAc (-n)).toArray⟩:ByteArray)=S at *
    go_enter Tryz.func146,Tryz.ntmps146
    go_wp2_with (go_at_call 73;refine HX.out.mono ?_;rintro e w1 ⟨rfl,rfl⟩)
    go_ret
    exact ⟨oAs HE.out,rfl⟩
  · have HX:=aA (oAh n w)
    have hs:=oAn (Nat.le_trans (oAa n) (by decide:6≤100))
    have HE:Hid ((⟨#[43]⟩++⟨(oAc n).toArray⟩:ByteArray)=⟨(oAg n).toArray⟩):=aA (oAd (by rw [oAb];unfold oAg;rw [if_neg hn];rfl))
    generalize (⟨(oAc n).toArray⟩:ByteArray)=S at *
    go_enter Tryz.func146,Tryz.ntmps146
    go_wp2_with (go_at_call 73;refine HX.out.mono ?_;rintro e w1 ⟨rfl,rfl⟩)
    go_ret
    exact ⟨oAs HE.out,rfl⟩
theorem form5 (s:ByteArray) (hs:s.size≤10) (n:Int) (h0:-65535≤n) (h1:n≤65535) (w:World) (hT:Deb w):Calls Tryz.prog 177 #[.string s,.int .i64 n] w fun e w'=>e=.returned (.string ⟨(40::(s.data.toList++(oAg n++[41]))).toArray⟩)∧RowKit.Below w.heap.size w w':=by
  have HX:=aA (oBs n h0 h1 w hT)
  have h2:=oAn (oAj n)
  have HE:Hid ((⟨#[40]⟩++s++⟨(oAg n).toArray⟩++⟨#[41]⟩:ByteArray)=⟨(40::(s.data.toList++(oAg n++[41]))).toArray⟩):=aA (oAd (by simp))
  generalize (40::(s.data.toList++(oAg n++[41])))=R at *
  generalize (⟨(oAg n).toArray⟩:ByteArray)=S at *
  clear hT
  go_enter Tryz.func177,Tryz.ntmps177
  go_wp2_with (go_at_call 178;refine HX.out.mono ?_;rintro e w1 ⟨rfl,hb⟩;have HB:=aA hb;clear hb)
  go_ret
  exact ⟨oAs HE.out,HB.out⟩
theorem form6 (s:ByteArray) (n:Int) (h0:-65535≤n) (h1:n≤65535) (w:World) (hT:Deb w):Calls Tryz.prog 179 #[.string s,.int .i64 n] w fun e w'=>e=.returned (.string ⟨(if n < 0 then oAg n else oAc n).toArray⟩)∧RowKit.Below w.heap.size w w':=by
  have HX:=aA (oBs n h0 h1 w hT)
  have HY:=aA (oAp n w hT)
  clear hT
  by_cases hn:n < 0
  · rw [if_pos hn]
    go_enter Tryz.func179,Tryz.ntmps179
    go_wp2_with (go_at_call 178;refine HX.out.mono ?_;rintro e w1 ⟨rfl,hb⟩;have HB:=aA hb;clear hb)
    go_ret
    exact ⟨rfl,HB.out⟩
  · rw [if_neg hn]
    go_enter Tryz.func179,Tryz.ntmps179
    go_wp2_with (go_at_call 75;refine HY.out.mono ?_;rintro e w1 ⟨rfl,hb⟩;have HB:=aA hb;clear hb)
    go_ret
    exact ⟨rfl,HB.out⟩
theorem form7 (s:ByteArray) (n:Int) (w:World) (hT:Deb w):Calls Tryz.prog 180 #[.string s,.int .i64 n] w fun e w'=>e=.returned (.string ⟨(40::(oAc n++[41])).toArray⟩)∧RowKit.Below w.heap.size w w':=by
  have HX:=aA (oAp n w hT)
  have h2:=oAn (oAa n)
  have HE:Hid ((⟨#[40]⟩++⟨(oAc n).toArray⟩++⟨#[41]⟩:ByteArray)=⟨(40::(oAc n++[41])).toArray⟩):=aA (oAd (by simp))
  generalize (40::(oAc n++[41]))=R at *
  generalize (⟨(oAc n).toArray⟩:ByteArray)=S at *
  clear hT
  go_enter Tryz.func180,Tryz.ntmps180
  go_wp2_with (go_at_call 75;refine HX.out.mono ?_;rintro e w1 ⟨rfl,hb⟩;have HB:=aA hb;clear hb)
  go_ret
  exact ⟨oAs HE.out,HB.out⟩
theorem oFt (s:ByteArray) (n:Int) (h0:-60000≤n) (h1:n≤60000) (w:World) (hT:Deb w):Calls Tryz.prog 181 #[.string s,.int .i64 n] w fun e w'=>e=.returned (.string ⟨(36::oAg (n+2)).toArray⟩)∧RowKit.Below w.heap.size w w':=by
  have HX:=aA (oBs (n+2) (by omega) (by omega) w hT)
  have h2:=oAn (oAj (n+2))
  have HE:Hid ((⟨#[36]⟩++⟨(oAg (n+2)).toArray⟩:ByteArray)=⟨(36::oAg (n+2)).toArray⟩):=aA (oAd (by simp))
  generalize (36::oAg (n+2))=R at *
  generalize (⟨(oAg (n+2)).toArray⟩:ByteArray)=S at *
  clear hT
  go_enter Tryz.func181,Tryz.ntmps181
  go_wp2_with (go_at_call 178;refine HX.out.mono ?_;rintro e w1 ⟨rfl,hb⟩;have HB:=aA hb;clear hb)
  go_ret
  exact ⟨oAs HE.out,HB.out⟩
theorem oDm (a:ByteArray):a.toList=a.data.toList:=by
  obtain ⟨⟨l⟩⟩:=a
  exact dK l
theorem oDn {o:Opd} (h:aC o=false):opT o=[]:=if_neg (by rw [h];decide)
theorem oDh {o:Opd} (h:aC o=true) (hn:mA o=false):(⟨(opT o).toArray⟩:ByteArray)=aQ o.kind o.reg:=by
  unfold mA at hn
  simp only [Bool.or_eq_false_iff,beq_eq_false_iff_ne] at hn
  obtain ⟨⟨⟨h5,h6⟩,h7⟩,h10⟩:=hn
  unfold opT
  rw [if_pos h,if_neg h5,if_neg h6,if_neg h7,if_neg h10]
  exact (oAd (oDm _).symm).symm
theorem oBo {o:Opd} (h:aC o=true) (hn:mA o=true):(o.kind=5∧(o.reg=5∨o.reg=6)∧-128≤o.n∧o.n≤127)∨(o.kind=6∧o.reg=0∧-32768≤o.n∧o.n≤65535)∨(o.kind=7∧o.reg=0∧0≤o.n∧o.n≤65535)∨(o.kind=10∧o.reg=0∧-128≤o.n∧o.n≤127):=by
  unfold mA at hn
  unfold aC at h
  obtain ⟨k,r,n⟩:=o
  dsimp only at *
  simp only [Bool.or_eq_true,beq_iff_eq] at hn
  rcases hn with ((rfl | rfl) | rfl) | rfl
  · left
    rw [if_neg (by decide),if_pos (by decide)] at h
    simp only [Bool.and_eq_true,decide_eq_true_eq,Bool.not_eq_true'] at h
    refine ⟨rfl,?_,h.1.2,h.2⟩
    obtain ⟨h0,h9⟩:=fY h.1.1
    have hr:r=0∨r=1∨r=2∨r=3∨r=4∨r=5∨r=6∨r=7∨r=8:=by omega
    have h:=h.1.1
    rcases hr with rfl | rfl | rfl | rfl | rfl | rfl | rfl | rfl | rfl
    all_goals first | exact .inl rfl | exact .inr rfl | exact absurd h (by decide+kernel)
  · right;left
    rw [if_neg (by decide),if_neg (by decide),if_pos (by decide)] at h
    simp only [Bool.and_eq_true,decide_eq_true_eq,beq_iff_eq] at h
    exact ⟨rfl,h.1.1,h.1.2,h.2⟩
  · right;right;left
    rw [if_neg (by decide),if_neg (by decide),if_neg (by decide),if_pos (by decide)] at h
    simp only [Bool.and_eq_true,decide_eq_true_eq,beq_iff_eq] at h
    exact ⟨rfl,h.1.1,h.1.2,h.2⟩
  · right;right;right
    rw [if_neg (by decide),if_neg (by decide),if_neg (by decide),if_neg (by decide),if_pos (by decide)] at h
    simp only [Bool.and_eq_true,decide_eq_true_eq,beq_iff_eq] at h
    exact ⟨rfl,h.1.1,h.1.2,h.2⟩
theorem oFn {r n:Int} (h:aC ⟨5,r,n⟩=true) (_:r=5∨r=6):opT ⟨5,r,n⟩=40::((aQ 5 r).data.toList++(oAg n++[41])):=by
  unfold opT
  rw [if_pos h,if_pos rfl,oDm]
theorem oFw {r n:Int} (h:aC ⟨6,r,n⟩=true):opT ⟨6,r,n⟩=if n < 0 then oAg n else oAc n:=by
  unfold opT
  rw [if_pos h,if_neg (by dsimp only;decide),if_pos rfl]
theorem oFm {r n:Int} (h:aC ⟨7,r,n⟩=true):opT ⟨7,r,n⟩=40::(oAc n++[41]):=by
  unfold opT
  rw [if_pos h,if_neg (by dsimp only;decide),if_neg (by dsimp only;decide),if_pos rfl]
theorem oEp {r n:Int} (h:aC ⟨10,r,n⟩=true):opT ⟨10,r,n⟩=36::oAg (n+2):=by
  unfold opT
  rw [if_pos h,if_neg (by dsimp only;decide),if_neg (by dsimp only;decide),if_neg (by dsimp only;decide),if_pos rfl]
theorem oBr (k:Int):((dM k).all fun s=>decide (s.toList.length≤10))=true:=by
  unfold dM
  split
  · decide+kernel
  · split
    · decide+kernel
    · split
      · decide+kernel
      · split
        · decide+kernel
        · split
          · decide+kernel
          · split
            · decide+kernel
            · split
              · decide+kernel
              · rfl
theorem oDj (o:Opd):(opT o).length≤100:=by
  unfold opT
  have h1:=oAj o.n
  have h2:=oAa o.n
  have h3:=oAj (o.n+2)
  have h4:∀k r:Int,(aQ k r).toList.length≤10:=fun k r=>by
    have:=oBr k
    unfold aQ dZ
    split
    · rw [oBf];decide
    · cases h:(dM k)[r.toNat]? with
      | none=>rw [Option.getD_none,oBf];decide
      | some s=>exact of_decide_eq_true (List.all_eq_true.1 this s (List.mem_of_getElem? h))
  have h5:=h4 5 o.reg
  have h6:=h4 o.kind o.reg
  (repeat' split)<;>simp<;>omega
theorem oCn (o:Opd) (h:aC o=true) (hn:mA o=true) (w:World) (hT:Deb w):Calls Tryz.prog 70 #[.agg #[.int .i64 o.kind,.int .i64 o.reg,.int .i64 o.n]] w fun e w'=>e=.returned (.string ⟨(opT o).toArray⟩)∧RowKit.Below w.heap.size w w':=by
  have hok:aZ o=true:=by rw [iL];exact h
  have HB0:Hid (RowKit.Below w.heap.size w (w.alloc (.cells #[.int .i64 o.kind,.int .i64 o.reg,.int .i64 o.n] 49))):=(Below.refl _ _).alloc (Nat.le_refl _) _
  have HK:Hid (Blk (w.alloc (.cells #[.int .i64 o.kind,.int .i64 o.reg,.int .i64 o.n] 49)) w.heap.size 49 #[.int .i64 o.kind,.int .i64 o.reg,.int .i64 o.n]):=Blk.new w _ _
  have HO:=aA (GA o hok (w.alloc (.cells #[.int .i64 o.kind,.int .i64 o.reg,.int .i64 o.n] 49)))
  simp only [fP.val] at HO
  obtain ⟨k,r,n⟩:=o
  dsimp only at *
  have HC:=oBo h hn
  dsimp only at HC
  have HT:=aA (fun W (hb:RowKit.Below w.heap.size w W)=>hT.below hb)
  clear hT hn
  rcases HC with ⟨rfl,hr,h0,h1⟩ | ⟨rfl,rfl,h0,h1⟩ | ⟨rfl,rfl,h0,h1⟩ | ⟨rfl,rfl,h0,h1⟩
  · rw [oFn h hr]
    rw [show (aG 5).form=177 from rfl] at HO
    have hnm:(aG 5).nm r.toNat=aQ 5 r:=by rcases hr with rfl | rfl<;>rfl
    have hsz:(aQ 5 r).size≤10:=by rcases hr with rfl | rfl<;>decide
    rw [hnm] at HO
    have HF:=aA (fun W hT=>form5 (aQ 5 r) hsz n (by omega) (by omega) W hT)
    generalize aQ 5 r=s at *
    clear hr hok h hnm hsz
    go_enter Tryz.func70,Tryz.ntmps70
    go_wp2_with (first | (go_at_call 109;refine HO.out.mono ?_;rintro e w1 ⟨rfl,hb⟩;have HB:=aA (HB0.out.trans (hb.mono HB0.out.size));have c2:w1.cell? ⟨w.heap.size,2,none⟩=some (.int .i64 n):=(hb.cell (p:=⟨w.heap.size,2,none⟩) HK.out.lt).trans (HK.out.cell 2);have hlt:w.heap.size < w1.heap.size:=Nat.lt_of_lt_of_le HK.out.lt hb.size;clear hb)
                       | (go_at_call 177;refine (HF.out _ (HT.out _ (HB.out.alloc HB.out.size _))).mono ?_;rintro e w2 ⟨rfl,hb⟩;have HB2:=aA ((HB.out.alloc HB.out.size _).trans (hb.mono (HB.out.alloc HB.out.size _).size));clear hb))
    go_ret
    exact ⟨rfl,HB2.out⟩
  · rw [oFw h]
    rw [show (aG 6).form=179 from rfl] at HO
    have HF:=aA (fun s W hT=>form6 s n (by omega) (by omega) W hT)
    generalize (if n < 0 then oAg n else oAc n)=R at *
    clear hok h
    go_enter Tryz.func70,Tryz.ntmps70
    go_wp2_with (first | (go_at_call 109;refine HO.out.mono ?_;rintro e w1 ⟨rfl,hb⟩;have HB:=aA (HB0.out.trans (hb.mono HB0.out.size));have c2:w1.cell? ⟨w.heap.size,2,none⟩=some (.int .i64 n):=(hb.cell (p:=⟨w.heap.size,2,none⟩) HK.out.lt).trans (HK.out.cell 2);have hlt:w.heap.size < w1.heap.size:=Nat.lt_of_lt_of_le HK.out.lt hb.size;clear hb)
                       | (go_at_call 179;refine (HF.out _ _ (HT.out _ (HB.out.alloc HB.out.size _))).mono ?_;rintro e w2 ⟨rfl,hb⟩;have HB2:=aA ((HB.out.alloc HB.out.size _).trans (hb.mono (HB.out.alloc HB.out.size _).size));clear hb))
    go_ret
    exact ⟨rfl,HB2.out⟩
  · rw [oFm h]
    rw [show (aG 7).form=180 from rfl] at HO
    have HF:=aA (fun s W hT=>form7 s n W hT)
    generalize (40::(oAc n++[41]))=R at *
    clear hok h
    go_enter Tryz.func70,Tryz.ntmps70
    go_wp2_with (first | (go_at_call 109;refine HO.out.mono ?_;rintro e w1 ⟨rfl,hb⟩;have HB:=aA (HB0.out.trans (hb.mono HB0.out.size));have c2:w1.cell? ⟨w.heap.size,2,none⟩=some (.int .i64 n):=(hb.cell (p:=⟨w.heap.size,2,none⟩) HK.out.lt).trans (HK.out.cell 2);have hlt:w.heap.size < w1.heap.size:=Nat.lt_of_lt_of_le HK.out.lt hb.size;clear hb)
                       | (go_at_call 180;refine (HF.out _ _ (HT.out _ (HB.out.alloc HB.out.size _))).mono ?_;rintro e w2 ⟨rfl,hb⟩;have HB2:=aA ((HB.out.alloc HB.out.size _).trans (hb.mono (HB.out.alloc HB.out.size _).size));clear hb))
    go_ret
    exact ⟨rfl,HB2.out⟩
  · rw [oEp h]
    rw [show (aG 10).form=181 from rfl] at HO
    have HF:=aA (fun s W hT=>oFt s n (by omega) (by omega) W hT)
    generalize (36::oAg (n+2))=R at *
    clear hok h
    go_enter Tryz.func70,Tryz.ntmps70
    go_wp2_with (first | (go_at_call 109;refine HO.out.mono ?_;rintro e w1 ⟨rfl,hb⟩;have HB:=aA (HB0.out.trans (hb.mono HB0.out.size));have c2:w1.cell? ⟨w.heap.size,2,none⟩=some (.int .i64 n):=(hb.cell (p:=⟨w.heap.size,2,none⟩) HK.out.lt).trans (HK.out.cell 2);have hlt:w.heap.size < w1.heap.size:=Nat.lt_of_lt_of_le HK.out.lt hb.size;clear hb)
                       | (go_at_call 181;refine (HF.out _ _ (HT.out _ (HB.out.alloc HB.out.size _))).mono ?_;rintro e w2 ⟨rfl,hb⟩;have HB2:=aA ((HB.out.alloc HB.out.size _).trans (hb.mono (HB.out.alloc HB.out.size _).size));clear hb))
    go_ret
    exact ⟨rfl,HB2.out⟩
theorem oCl (o:Opd) (w:World) (hT:Deb w):Calls Tryz.prog 70 #[.agg #[.int .i64 o.kind,.int .i64 o.reg,.int .i64 o.n]] w fun e w'=>e=.returned (.string ⟨(opT o).toArray⟩)∧RowKit.Below w.heap.size w w':=by
  cases h:aC o
  · rw [oDn h]
    exact zR o (by rw [iL];exact h) w
  · cases hn:mA o
    · rw [oDh h hn]
      have h2:=mark_eq o h
      unfold fM eP at h2
      rw [hn,if_neg (by decide)] at h2
      have hn2:=hn
      simp only [mA,Bool.or_eq_false_iff] at hn2
      rw [hn2.1.1.1,hn2.1.1.2,hn2.1.2,hn2.2] at h2
      have h3:zB o=aQ o.kind o.reg:=h2.trans (by show bY o=_;unfold bY;rw [if_pos h])
      rw [←h3]
      exact text_any o hn w
    · exact oCn o h hn w hT
end Go.Proofs.YtcgheipmnphbjaaGreatDoor
