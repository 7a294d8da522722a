/-
  The printed form of a number, in plain words. Conditions: none. The printed forms of operands and instructions, in plain words. Conditions: none. The printed form of a number: strconv.FormatInt and Itoa, num.Text, breadboardref01.Text. Conditions: the library's table as its initialiser lays it.
-/
import Derived.Test.YtcgheipmnphbjaaGreatDoorBL1
namespace Go.Proofs.YtcgheipmnphbjaaGreatDoor
open Go.RowKit Go.Shelf Go.Sort
theorem oAk:∀(k n:Nat),(qG n k).length=k
  | 0,_=>rfl
  | k+1,n=>by rw [qG,List.length_append,oAk k];rfl
def oAf (n:Nat):Nat:=if n < 16 then 1 else if n < 256 then 2 else if n < 4096 then 3 else 4
def oCo (n:Nat):List UInt8:=qG n (oAf n)
def oHl (n:Nat):Bool:=decide (10≤n / 16 ^ (oAf n - 1))
def nzH (n:Nat):List UInt8:=if oHl n=true then 48::oCo n else oCo n
def oAc (n:Int):List UInt8:=if n < 0∨65535 < n then [] else if n < 10 then qG n.toNat 1 else nzH n.toNat++[72]
theorem oAo:∀(k n:Nat),qG n (k+1)=DA.getD (n / 16 ^ k % 16) 0::qG n k
  | 0,n=>by simp [qG]
  | k+1,n=>by
    rw [qG,oAo k (n / 16),qG,List.cons_append,Nat.div_div_eq_div_mul,Nat.pow_succ,Nat.mul_comm (16 ^ k) 16]
theorem oCg:∀d:Fin 16,(DA.getD d.val 0==48)=decide (d.val=0):=by decide
theorem oCw:∀d:Fin 16,(decide (57 < (DA.getD d.val 0).toNat)=decide (10≤d.val))∧(decide (65≤(DA.getD d.val 0).toNat)=decide (10≤d.val)):=by decide
theorem oAi (n:Nat):1≤oAf n∧oAf n≤4:=by
  unfold oAf
  by_cases h1:n < 16
  · rw [if_pos h1];decide
  · by_cases h2:n < 256
    · rw [if_neg h1,if_pos h2];decide
    · by_cases h3:n < 4096
      · rw [if_neg h1,if_neg h2,if_pos h3];decide
      · rw [if_neg h1,if_neg h2,if_neg h3];decide
theorem oDa {n:Nat} (h:n < 65536):n < 16 ^ oAf n:=by
  unfold oAf
  split
  · omega
  · split
    · omega
    · split<;>omega
theorem oFb {n j:Nat} (h:j+1 < oAf n):16 ^ (j+1)≤n:=by
  unfold oAf at h
  have hj:j=0∨j=1∨j=2∨3≤j:=by omega
  split at h
  · omega
  · split at h
    · obtain rfl:j=0:=by omega
      omega
    · split at h
      · rcases hj with rfl | rfl | hj<;>omega
      · rcases hj with rfl | rfl | rfl | hj<;>omega
theorem oBm {n:Nat} (h:n < 65536):∃t,oCo n=DA.getD (n / 16 ^ (oAf n - 1)) 0::t∧n / 16 ^ (oAf n - 1) < 16∧(10≤n→1≤n / 16 ^ (oAf n - 1)):=by
  have h1:=oAi n
  have h2:=oDa h
  have h3:=oFb (n:=n) (j:=oAf n - 2)
  obtain ⟨k,hk⟩:∃k,oAf n=k+1:=⟨oAf n - 1,by omega⟩
  unfold oCo
  rw [hk] at h2 h3 ⊢
  rw [Nat.add_sub_cancel]
  have h4:n / 16 ^ k < 16:=by
    rw [Nat.div_lt_iff_lt_mul (Nat.pow_pos (by decide))]
    rw [Nat.pow_succ,Nat.mul_comm] at h2
    exact h2
  refine ⟨qG n k,by rw [oAo,Nat.mod_eq_of_lt h4],h4,fun h10=>?_⟩
  cases k with
  | zero=>omega
  | succ j=>
    have h5:=h3 (by omega)
    rw [show j+1+1 - 2+1=j+1 by omega] at h5
    exact (Nat.le_div_iff_mul_le (Nat.pow_pos (by decide))).2 (by omega)
theorem oCt {n j:Nat} (h:n < 16 ^ j):qG n (j+1)=48::qG n j:=by
  rw [oAo,Nat.div_eq_of_lt h]
  rfl
theorem oFi {n j:Nat} (h:n < 16 ^ (j+1)) (hn:16 ^ j≤n):∃c t,qG n (j+1)=c::t∧(c==48)=false:=by
  have h4:n / 16 ^ j < 16:=by
    rw [Nat.div_lt_iff_lt_mul (Nat.pow_pos (by decide))]
    rw [Nat.pow_succ,Nat.mul_comm] at h
    exact h
  have h5:1≤n / 16 ^ j:=(Nat.le_div_iff_mul_le (Nat.pow_pos (by decide))).2 (by omega)
  refine ⟨_,_,oAo j n,?_⟩
  rw [Nat.mod_eq_of_lt h4,oCg ⟨_,h4⟩]
  exact decide_eq_false (by dsimp only;omega)
def oDu:List UInt8:=[48,49,50,51,52,53,54,55,56,57,97,98,99,100,101,102]
def oAu (n:Nat):Nat→List UInt8
  | 0=>[]
  | k+1=>oAu (n / 16) k++[oDu.getD (n % 16) 0]
theorem oEu:∀d:Fin 16,up (oDu.getD d.val 0)=DA.getD d.val 0:=by decide
theorem oDp:∀(k n:Nat),(oAu n k).map up=qG n k
  | 0,_=>rfl
  | k+1,n=>by
    rw [oAu,List.map_append,oDp k,qG]
    congr 1
    exact congrArg (fun x=>[x]) (oEu ⟨n % 16,Nat.mod_lt _ (by decide)⟩)
theorem oCb:∀(k n:Nat),(oAu n k).length=k
  | 0,_=>rfl
  | k+1,n=>by rw [oAu,List.length_append,oCb k];rfl
theorem oCv:∀(k n:Nat),oAu n (k+1)=oDu.getD (n / 16 ^ k % 16) 0::oAu n k
  | 0,n=>by simp [oAu]
  | k+1,n=>by
    rw [oAu,oCv k (n / 16),oAu,List.cons_append,Nat.div_div_eq_div_mul,Nat.pow_succ,Nat.mul_comm (16 ^ k) 16]
theorem oCh (n:Nat):(oCo n).length≤4:=by unfold oCo;rw [oAk];exact (oAi n).2
theorem oAa (n:Int):(oAc n).length≤6:=by
  unfold oAc nzH
  split
  · decide
  · split
    · rw [oAk];decide
    · have:=oCh n.toNat
      split<;>simp<;>omega
theorem oBd {n:Nat} (h:n < 10):oAc n=qG n 1:=by unfold oAc;rw [if_neg (by omega),if_pos (by omega)];rfl
theorem oBz {n:Nat} (h:10≤n) (h2:n≤65535):oAc n=nzH n++[72]:=by unfold oAc;rw [if_neg (by omega),if_neg (by omega)];rfl
theorem oDo {n:Int} (h:n < 0∨65535 < n):oAc n=[]:=if_pos h
def oAg (n:Int):List UInt8:=if n < 0 then 45::oAc (-n) else 43::oAc n
def opT (o:Opd):List UInt8:=
  if aC o=true then
    (if o.kind=5 then 40::((aQ 5 o.reg).toList++(oAg o.n++[41]))
     else if o.kind=6 then (if o.n < 0 then oAg o.n else oAc o.n)
     else if o.kind=7 then 40::(oAc o.n++[41])
     else if o.kind=10 then 36::oAg (o.n+2)
     else (aQ o.kind o.reg).toList)
  else []
def gdC (c:UInt8):Bool:=decide (32 < c.toNat)&&decide (c.toNat≠44)
def gdL (l:List UInt8):Prop:=l≠[]∧l.all gdC=true
theorem gdL.cons {c:UInt8} {l:List UInt8} (hc:gdC c=true) (h:l.all gdC=true):gdL (c::l):=⟨List.cons_ne_nil _ _,by rw [List.all_cons,hc,h];rfl⟩
theorem oAx:∀(k n:Nat),(qG n k).all gdC=true
  | 0,_=>rfl
  | k+1,n=>by
    have h:∀d:Fin 16,gdC (DA.getD d.val 0)=true:=by decide
    rw [qG,List.all_append,oAx k,List.all_cons,h ⟨n % 16,Nat.mod_lt _ (by decide)⟩]
    rfl
theorem oAw {n:Int} (h0:0≤n) (h1:n≤65535):gdL (oAc n):=by
  unfold oAc
  rw [if_neg (by omega)]
  by_cases h:n < 10
  · rw [if_pos h]
    exact ⟨fun e=>(by have:=congrArg List.length e;rw [oAk] at this;cases this),oAx _ _⟩
  · rw [if_neg h]
    refine ⟨by simp,?_⟩
    unfold nzH oCo
    split
    · rw [List.all_append,List.all_cons,oAx];rfl
    · rw [List.all_append,oAx];rfl
theorem oBw {n:Int} (h0:-65535≤n) (h1:n≤65535):gdL (oAg n):=by
  unfold oAg
  split
  · exact gdL.cons rfl (oAw (by omega) (by omega)).2
  · exact gdL.cons rfl (oAw (by omega) (by omega)).2
theorem oEv (k:Int):((dM k).all fun s=>s.toList.all gdC)=true:=by
  unfold dM
  split
  · decide+kernel
  · split
    · decide+kernel
    · split
      · decide+kernel
      · split
        · decide+kernel
        · split
          · decide+kernel
          · split
            · decide+kernel
            · split
              · decide+kernel
              · rfl
theorem oBf:(⟨#[]⟩:ByteArray).toList=[]:=by decide+kernel
theorem oBk (k r:Int):(aQ k r).toList.all gdC=true:=by
  unfold aQ dZ
  split
  · rw [oBf];rfl
  · cases h:(dM k)[r.toNat]? with
    | none=>rw [Option.getD_none,oBf];rfl
    | some s=>exact List.all_eq_true.1 (oEv k) s (List.mem_of_getElem? h)
theorem oEq {o:Opd} (h:aC o=true):gdL (opT o):=by
  unfold opT
  rw [if_pos h]
  unfold aC at h
  obtain ⟨k,r,n⟩:=o
  dsimp only at *
  by_cases h5:k=5
  · subst h5
    rw [if_neg (by decide),if_pos (by decide)] at h
    rw [if_pos rfl]
    simp only [Bool.and_eq_true,decide_eq_true_eq] at h
    exact gdL.cons rfl (by rw [List.all_append,oBk,List.all_append,(oBw (by omega) (by omega)).2];rfl)
  by_cases h6:k=6
  · subst h6
    rw [if_neg (by decide),if_neg (by decide),if_pos (by decide)] at h
    rw [if_neg (by decide),if_pos rfl]
    simp only [Bool.and_eq_true,decide_eq_true_eq] at h
    split
    · exact oBw (by omega) (by omega)
    · exact oAw (by omega) (by omega)
  by_cases h7:k=7
  · subst h7
    rw [if_neg (by decide),if_neg (by decide),if_neg (by decide),if_pos (by decide)] at h
    rw [if_neg (by decide),if_neg (by decide),if_pos rfl]
    simp only [Bool.and_eq_true,decide_eq_true_eq] at h
    exact gdL.cons rfl (by rw [List.all_append,(oAw (by omega) (by omega)).2];rfl)
  by_cases h10:k=10
  · subst h10
    rw [if_neg (by decide),if_neg (by decide),if_neg (by decide),if_neg (by decide),if_pos (by decide)] at h
    rw [if_neg (by decide),if_neg (by decide),if_neg (by decide),if_pos rfl]
    simp only [Bool.and_eq_true,decide_eq_true_eq] at h
    exact gdL.cons rfl (oBw (by omega) (by omega)).2
  rw [if_neg h5,if_neg h6,if_neg h7,if_neg h10]
  refine ⟨fun e=>?_,oBk k r⟩
  have b5:(k==5)=false:=by rw [beq_eq_false_iff_ne];exact h5
  have b6:(k==6)=false:=by rw [beq_eq_false_iff_ne];exact h6
  have b7:(k==7)=false:=by rw [beq_eq_false_iff_ne];exact h7
  have b10:(k==10)=false:=by rw [beq_eq_false_iff_ne];exact h10
  rw [b5,b6,b7,b10,e] at h
  split at h
  · simp at h
  · simp at h
def oAq (b:List UInt8):List UInt8:=if b=[] then [] else [68,69,70,66,32]++Lib.join (b.map fun c=>oAc (c.toNat:Int)) [44]
def oBp (l:List Opd):List UInt8:=Lib.join (l.map opT) [44]
def oEr (s:List UInt8) (l:List Opd):List UInt8:=if l=[] then s else s++32::oBp l
theorem oAl:∀(l:List (List UInt8)) (x:List UInt8),(∀y∈x::l,gdL y)→∃c,(x++Lib.joinTail [44] l).getLast?=some c∧gdC c=true
  | [],x,h=>by
    obtain ⟨h1,h2⟩:=h x List.mem_cons_self
    refine ⟨x.getLast h1,?_,List.all_eq_true.1 h2 _ (List.getLast_mem h1)⟩
    show (x++[]).getLast?=_
    rw [List.append_nil]
    exact List.getLast?_eq_some_getLast h1
  | y::l,x,h=>by
    obtain ⟨c,h1,h2⟩:=oAl l y (fun z hz=>h z (List.mem_cons_of_mem _ hz))
    refine ⟨c,?_,h2⟩
    show (x++(([44]++y)++Lib.joinTail [44] l)).getLast?=_
    rw [List.append_assoc [44],←List.append_assoc,List.getLast?_append,h1]
    rfl
theorem oCx {A B:List UInt8} {c:UInt8} (h:B.getLast?=some c) (hc:gdC c=true):Lib.trimSuffix (A++B) [32]=A++B:=by
  unfold Lib.trimSuffix Lib.hasSuffix
  rw [if_neg]
  intro hs
  rw [List.isSuffixOf_iff_suffix] at hs
  obtain ⟨t,ht⟩:=hs
  have:=congrArg List.getLast? ht
  rw [List.getLast?_append,List.getLast?_append,h] at this
  simp at this
  subst this
  revert hc
  decide
theorem oEc (s:List UInt8) (l:List Opd) (h:∀o∈l,aC o=true):Lib.trimSuffix (s++[32]++oBp l) [32]=oEr s l:=by
  unfold oEr oBp
  cases l with
  | nil=>
    rw [if_pos rfl]
    show Lib.trimSuffix (s++[32]++[]) [32]=s
    rw [List.append_nil]
    unfold Lib.trimSuffix Lib.hasSuffix
    rw [if_pos (by rw [List.isSuffixOf_iff_suffix];exact List.suffix_append s [32])]
    rw [List.length_append,List.length_singleton,Nat.add_sub_cancel,List.take_left]
  | cons o r=>
    rw [if_neg (List.cons_ne_nil _ _),List.map_cons,Lib.join_cons]
    obtain ⟨c,h1,h2⟩:=oAl (r.map opT) (opT o) (fun y hy=>by
      rw [←List.map_cons (f:=opT)] at hy
      obtain ⟨z,hz,rfl⟩:=List.mem_map.1 hy
      exact oEq (h z hz))
    rw [oCx h1 h2,List.append_assoc]
    rfl
end Go.Proofs.YtcgheipmnphbjaaGreatDoor
namespace Go.Proofs.YtcgheipmnphbjaaGreatDoor
set_option maxHeartbeats 2000000
set_option maxRecDepth 100000
open Go.RowKit Go.Shelf Go.Sort
def dgS:ByteArray:=⟨#[48,49,50,51,52,53,54,55,56,57,97,98,99,100,101,102,103,104,105,106,107,108,109,110,111,112,113,114,115,116,117,118,119,120,121,122]⟩
theorem oFk:∀d:Fin 16,dgS[d.val]'(by show _ < 36;omega)=oDu.getD d.val 0:=by decide
theorem oCd (m:Nat) (w:World):(Instr.index 9 (.string ⟨#[48,49,50,51,52,53,54,55,56,57,97,98,99,100,101,102,103,104,105,106,107,108,109,110,111,112,113,114,115,116,117,118,119,120,121,122]⟩) (.int .u64 ((m:Int) % 16))).run Tryz.prog w=.ok (.int .u8 ((oDu.getD (m % 16) 0).toNat:Nat)) w:=by
  have hu:Tryz.prog.underlying 9=some .string:=by kernel_rfl
  have h1:0≤(m:Int) % 16∧(m:Int) % 16 < (dgS.size:Nat):=⟨by omega,by show (m:Int) % 16 < 36;omega⟩
  have e:=run_index_string (P:=Tryz.prog) w 9 dgS .u64 ((m:Int) % 16) hu
  rw [dif_pos h1] at e
  have e2:((m:Int) % 16).toNat=m % 16:=by omega
  have e3:dgS[((m:Int) % 16).toNat]'(by show _ < 36;omega)=oDu.getD (m % 16) 0:=by
    have:=oFk ⟨m % 16,Nat.mod_lt _ (by omega)⟩
    rw [←this]
    congr 1
  rw [e3] at e
  exact e
theorem oDc (m:Nat) (h:m < 65536):bits .and .u64 (m:Int) 15=(m:Int) % 16:=by
  have h15:(BitVec.ofInt 64 15).toNat=2 ^ 4 - 1:=by decide
  have key:(BitVec.ofInt 64 (m:Int)&&& BitVec.ofInt 64 15).toNat=((m:Int) % ((2 ^ 64:Nat):Int)).toNat % 2 ^ 4:=by
    rw [BitVec.toNat_and,BitVec.toNat_ofInt,h15,Nat.and_two_pow_sub_one_eq_mod]
  show IntKind.u64.wrap ((BitVec.ofInt 64 (m:Int)&&& BitVec.ofInt 64 15).toNat:Nat)=(m:Int) % 16
  rw [key,IntKind.wrap_u64]
  omega
theorem tz16:Lib.ctz 64 16=4:=by decide
theorem oFc (w:World) (hT:Deb w):Calls Tryz.prog 199 #[.int .u64 16] w fun e w'=>e=.returned (.int .i64 4)∧w'=w:=by
  have HZ:=aA (RK 16 (by decide) w hT)
  rw [tz16] at HZ
  clear hT
  go_enter Tryz.func199,Tryz.ntmps199
  go_wp2_with (go_at_call 218;refine HZ.out.mono ?_;rintro e w1 ⟨rfl,rfl⟩)
  go_ret
  exact ⟨rfl,rfl⟩
theorem oEd (w:World):Calls Tryz.prog 198 #[.int .i64 16] w fun e w'=>e=.returned (.bool true)∧w'=w:=by
  have hb:bits .and .i64 16 15=0:=by decide
  go_enter Tryz.func198,Tryz.ntmps198
  go_wp2
  go_ret
  exact ⟨rfl,rfl⟩
theorem oFu (w:World):gT (w.alloc (.cells Tryz.zeroCells236 236)) w.heap.size (List.replicate 65 0++[]):=by
  have hz:Tryz.zeroCells236=(List.replicate 65 (Value.int .u8 0)).toArray:=by kernel_rfl
  rw [List.append_nil]
  refine ⟨fun j x hx=>?_,fun j _=>(Blk.new w _ _).free j⟩
  rw [List.getElem?_replicate] at hx
  split at hx
  · rename_i hj
    injection hx with hx
    refine ((Blk.new w 236 Tryz.zeroCells236).cell j).trans ?_
    rw [hz,List.getElem?_toArray,List.getElem?_replicate,if_pos hj,←hx]
    rfl
  · cases hx
theorem oDe (b a:Nat) (ha:a < 65) (w:World):(Instr.sliceAt 236 (.pointer (some ⟨b,0,none⟩)) (some (.int .i64 (a:Int))) none none).run Tryz.prog w=.ok (.slice (some ⟨b,a,none⟩) (65 - a) (65 - a)) w:=by
  have hu:Tryz.prog.underlying 236=some (.array 65 5):=by kernel_rfl
  have he:Tryz.prog.elem 236=5:=by simp [Program.elem,hu]
  have hl:Tryz.prog.arrayLen 236=65:=by simp [Program.arrayLen,hu]
  have hz:(Tryz.prog.info? 5).map (·.size)=some 1:=by kernel_rfl
  have hs:(sizeOf 5).run Tryz.prog w=.ok 1 w:=by
    cases hq:Tryz.prog.info? 5 with
    | none=>simp [hq] at hz
    | some i=>exact (by have h1:i.size=1:=(by simpa [hq] using hz);simp [sizeOf,typeInfo,hq,h1])
  have e:=run_sliceAt_array_l (P:=Tryz.prog) w 236 ⟨b,0,none⟩ (by rw [hl,he];exact hu) .i64 (a:Int) (by omega) (by rw [hl];omega)
  rw [e,he,hs,hl]
  have ea:(⟨b,0,none⟩:Addr).add (a * 1)=⟨b,a,none⟩:=by rw [Nat.mul_one];unfold Addr.add;split<;>simp_all
  have hne:¬(65=a):=by omega
  simp only [Result.andThen,slicedAt,Int.toNat_natCast,ea,if_neg hne]
theorem oBe (w:World) (b z cap:Nat) (l:List UInt8) (h:∀j x,l[j]?=some x→w.cell? ⟨b,z+j,none⟩=some (.int .u8 x.toNat)):(convert 38 9 (.slice (some ⟨b,z,none⟩) l.length cap)).run Tryz.prog w=.ok (.string ⟨l.toArray⟩) w:=
  run_convert_bytes_back w _ _ _ _ cap l Tryz.underlying38 Tryz.underlying5 Tryz.underlying9 (fun j hj=>by
    have hadd:(⟨b,z,none⟩:Addr).add j=⟨b,z+j,none⟩:=by unfold Addr.add;split<;>simp_all
    rw [hadd]
    exact h j _ (List.getElem?_eq_getElem hj))
theorem oBh (c:UInt8) (t:List UInt8):∀j,(List.replicate (j+1) 0++t).set j c=List.replicate j 0++c::t
  | 0=>rfl
  | j+1=>by
    show (0::(List.replicate (j+1) 0++t)).set (j+1) c=0::(List.replicate j 0++c::t)
    rw [List.set_cons_succ,oBh c t j]
theorem oBl {m:Nat} (h:16≤m) (h2:m < 65536):oAf m=oAf (m / 16)+1:=by
  unfold oAf
  by_cases a:m < 256
  · rw [if_neg (by omega),if_pos a,if_pos (by omega)]
  · by_cases b:m < 4096
    · rw [if_neg (by omega),if_neg a,if_pos b,if_neg (by omega),if_pos (by omega)]
    · rw [if_neg (by omega),if_neg a,if_neg b,if_neg (by omega),if_neg (by omega),if_pos (by omega)]
theorem oEj {m:Nat} (h:m < 16):oAf m=1:=if_pos h
theorem oDl {m:Nat} (h:16≤m) (h2:m < 65536) (t:List UInt8):oAu m (oAf m)++t=oAu (m / 16) (oAf (m / 16))++(oDu.getD (m % 16) 0::t):=by
  rw [oBl h h2,oAu,List.append_assoc]
  rfl
theorem oEi {m:Nat} (h:m < 16) (t:List UInt8):oAu m (oAf m)++t=oDu.getD (m % 16) 0::t:=by
  rw [oEj h]
  rfl
theorem oBt (n:Nat) (hn:n < 65536) (w:World) (hT:Deb w):Calls Tryz.prog 185 #[.slice none 0 0,.int .u64 (n:Int),.int .i64 16,.bool false,.bool false] w fun e w'=>e=.returned (.tuple #[.slice none 0 0,.string ⟨(oAu n (oAf n)).toArray⟩])∧Below w.heap.size w w':=by
  have HP:=aA oEd
  have HZ:=aA (fun W (hb:RowKit.Below w.heap.size w W)=>oFc W (hT.below hb))
  clear hT
  go_enter Tryz.func185,Tryz.ntmps185
  go_upto_region 11 with (first
    | (go_at_call 198;refine (HP.out _).mono ?_;rintro e w1 ⟨rfl,rfl⟩)
    | (go_at_call 199;refine (HZ.out _ ((Below.refl _ _).alloc (Nat.le_refl _) _)).mono ?_;rintro e w2 ⟨rfl,rfl⟩))
  have HB0:Hid (RowKit.Below w.heap.size w (w.alloc (.cells Tryz.zeroCells236 236))):=(Below.refl _ _).alloc (Nat.le_refl _) _
  have HR0:=aA (oFu w)
  obtain ⟨W0,hW0⟩:∃W,W=w.alloc (.cells Tryz.zeroCells236 236):=⟨_,rfl⟩
  rw [←hW0] at HB0 HR0 ⊢
  clear hW0
  have HLB:=aA (oAi n)
  generalize hb9:w.heap.size=b9 at *
  have HB9:=aA hb9
  clear hb9
  go_loopw [1,13] (fun x z wr=>∃(m k:Nat) (t:List UInt8),x=.int .u64 m∧z=.int .i64 k∧m < 65536∧k+t.length=65∧t.length+oAf m≤4∧oAu n (oAf n)=oAu m (oAf m)++t∧gT wr b9 (List.replicate k 0++t)∧RowKit.Below b9 w wr) (fun x _ _=>(intOf x).toNat)
  case atStart=>exact ⟨n,65,[],rfl,rfl,hn,rfl,by have:=HLB.out.2;simpa using this,by simp,HR0.out,HB0.out⟩
  case round=>
    obtain ⟨m,k,t,rfl,rfl,hm,hk,hl,hx,hr,hb⟩:=hrel
    have HX:=aA hx
    have HR:=aA hr
    have HB:=aA hb
    have HL:=aA hl
    have HK:=aA hk
    have hk4:61≤k:=by have:=(oAi m).1;omega
    obtain ⟨k,rfl⟩:∃j,k=j+1:=⟨k - 1,by omega⟩
    have hk5:k≤64:=by omega
    clear hx hr hb hl hk hk4
    have hf:=HR.out.free k (by simp;omega)
    have hc:=HR.out.cell k 0 (by rw [List.getElem?_append_left (by simp),List.getElem?_replicate,if_pos (by omega)])
    by_cases h16:16≤m
    · have hand:=oDc m hm
      have hidx:=oCd m
      have HS:=aA (oDl h16 hm t)
      have HLS:=aA (oBl h16 hm)
      generalize oDu.getD (m % 16) 0=c at *
      go_wp2
      exact ⟨⟨m / 16,k,c::t,by go_num,rfl,by omega,by have:=HK.out;simp;omega,by have:=HL.out;have:=HLS.out;simp;omega,HX.out.trans HS.out,by rw [←oBh];exact HR.out.set k c,HB.out.setCell (p:=⟨b9,k,none⟩) (Nat.le_refl _) _⟩,by simp [intOf];omega⟩
    · have hidx:∀W,_:=fun W=>oCd m W
      rw [show (m:Int) % 16=m by omega] at hidx
      have hcut:=oDe b9 k (by omega)
      have HS:=aA (oEi (m:=m) (by omega) t)
      generalize oDu.getD (m % 16) 0=c at *
      have HR2:Hid (gT (wr.setCell ⟨b9,k,none⟩ (.int .u8 c.toNat)) b9 (List.replicate k 0++c::t)):=by rw [←oBh];exact HR.out.set k c
      have HB2:=aA (HB.out.setCell (p:=⟨b9,k,none⟩) (Nat.le_refl _) (.int .u8 c.toNat))
      obtain ⟨W2,hW2⟩:∃W,W=wr.setCell ⟨b9,k,none⟩ (.int .u8 c.toNat):=⟨_,rfl⟩
      have hstr:=oBe W2 b9 k (65 - k) (c::t) (fun j x hx=>by
        rw [hW2]
        exact HR2.out.cell (k+j) x (by rw [List.getElem?_append_right (by simp),List.length_replicate,Nat.add_sub_cancel_left];exact hx))
      rw [show (c::t).length=65 - k by have:=HK.out;simp;omega] at hstr
      rw [←HX.out.trans HS.out,hW2] at hstr
      go_wp2
      go_ret2
      exact ⟨rfl,by rw [HB9.out];exact HB2.out⟩
theorem oCy (n:Nat) (hn:n < 65536) (w:World) (hT:Deb w):Calls Tryz.prog 112 #[.int .i64 (n:Int),.int .i64 16] w fun e w'=>e=.returned (.string ⟨(oAu n (oAf n)).toArray⟩)∧Below w.heap.size w w':=by
  have h1:Calls Tryz.prog 148 #[.int .i64 (n:Int),.int .i64 16] w fun e w'=>e=.returned (.string ⟨(oAu n (oAf n)).toArray⟩)∧Below w.heap.size w w':=by
    have HF:=aA (oBt n hn w hT)
    have h0:(0:Int)≤(n:Int):=by omega
    have h6:(n:Int) < 65536:=by omega
    clear hn hT
    go_enter Tryz.func148,Tryz.ntmps148
    go_wp2_with (go_at_call 185;refine HF.out.mono ?_;rintro e w1 ⟨rfl,hb⟩;have HB:=aA hb;clear hb)
    go_ret
    exact ⟨rfl,HB.out⟩
  have HF:=aA h1
  clear h1 hT hn
  go_enter Tryz.func112,Tryz.ntmps112
  go_wp2_with (go_at_call 148;refine HF.out.mono ?_;rintro e w1 ⟨rfl,hb⟩;have HB:=aA hb;clear hb)
  go_ret
  exact ⟨rfl,HB.out⟩
theorem oDb (n:Nat) (hn:n < 10) (w:World):(Instr.sliceAt 9 (.string ⟨#[48,49,50,51,52,53,54,55,56,57,97,98,99,100,101,102,103,104,105,106,107,108,109,110,111,112,113,114,115,116,117,118,119,120,121,122]⟩) (some (.int .i64 (n:Int))) (some (.int .i64 ((n:Int)+1))) none).run Tryz.prog w=.ok (.string ⟨(qG n 1).toArray⟩) w:=by
  have hu:Tryz.prog.underlying 9=some .string:=by kernel_rfl
  rw [run_sliceAt_string _ _ _ _ _ _ hu,run_slice_string_if _ _ _ _ _ _ _ hu,if_pos ⟨by omega,by show (n:Int)+1≤36;omega⟩,if_pos ⟨by omega,by omega⟩]
  have e:((n:Int)+1).toNat=n+1:=by omega
  rw [e,Int.toNat_natCast]
  obtain h | h | h | h | h | h | h | h | h | h:n=0∨n=1∨n=2∨n=3∨n=4∨n=5∨n=6∨n=7∨n=8∨n=9:=by omega
  all_goals subst h;rfl
theorem oEb (n:Nat) (hn:n < 10) (w:World):Calls Tryz.prog 111 #[.int .i64 (n:Int)] w fun e w'=>e=.returned (.string ⟨(qG n 1).toArray⟩)∧w'=w:=by
  have h0:(0:Int)≤(n:Int):=by omega
  have h6:(n:Int) < 10:=by omega
  have hrun:=oDb n hn
  have h1:Calls Tryz.prog 182 #[.int .i64 (n:Int)] w fun e w'=>e=.returned (.string ⟨(qG n 1).toArray⟩)∧w'=w:=by
    clear hn
    go_enter Tryz.func182,Tryz.ntmps182
    go_wp2
    go_ret
    exact ⟨rfl,rfl⟩
  have H1:=aA h1
  have h2:Calls Tryz.prog 148 #[.int .i64 (n:Int),.int .i64 10] w fun e w'=>e=.returned (.string ⟨(qG n 1).toArray⟩)∧w'=w:=by
    clear hn hrun h1
    go_enter Tryz.func148,Tryz.ntmps148
    go_wp2_with (go_at_call 182;refine H1.out.mono ?_;rintro e w1 ⟨rfl,rfl⟩)
    go_ret
    exact ⟨rfl,rfl⟩
  have H2:=aA h2
  have h3:Calls Tryz.prog 147 #[.int .i64 (n:Int)] w fun e w'=>e=.returned (.string ⟨(qG n 1).toArray⟩)∧w'=w:=by
    clear hn hrun h1 h2 H1
    go_enter Tryz.func147,Tryz.ntmps147
    go_wp2_with (go_at_call 148;refine H2.out.mono ?_;rintro e w1 ⟨rfl,rfl⟩)
    go_ret
    exact ⟨rfl,rfl⟩
  have H3:=aA h3
  clear hn hrun h1 h2 h3 H1 H2
  go_enter Tryz.func111,Tryz.ntmps111
  go_wp2_with (go_at_call 147;refine H3.out.mono ?_;rintro e w1 ⟨rfl,rfl⟩)
  go_ret
  exact ⟨rfl,rfl⟩
theorem oAs {a b:ByteArray} (h:a=b):Ending.returned (.string a)=.returned (.string b):=by rw [h]
theorem oAd {a:ByteArray} {l:List UInt8} (h:a.data.toList=l):a=⟨l.toArray⟩:=by
  obtain ⟨d⟩:=a
  rw [←h]
theorem oAb (a b:ByteArray):(a++b).data.toList=a.data.toList++b.data.toList:=by simp
theorem oFq {s:ByteArray} {c:UInt8} {l:List UInt8} {j:Nat} (h:s.data.toList=c::l) (hj:l.length=j):(s.extract 1 (j+1)).data.toList=l:=by
  rw [oAd h]
  simp [←hj]
theorem oDq {s:ByteArray} {c:UInt8} {l:List UInt8} (h:s.data.toList=c::l) (h0:0 < s.size):s[0]=c:=by
  have:=oAd h
  subst this
  rfl
theorem oAh (n:Int) (w:World):Calls Tryz.prog 73 #[.int .i64 n] w fun e w'=>e=.returned (.string ⟨(oAc n).toArray⟩)∧w'=w:=by
  by_cases hno:n < 0∨65535 < n
  · rw [oDo hno]
    rcases hno with h | h
    · go_enter Tryz.func73,Tryz.ntmps73
      go_wp2
      go_ret
      exact ⟨rfl,rfl⟩
    · have h0:¬n < 0:=by omega
      go_enter Tryz.func73,Tryz.ntmps73
      go_wp2
      go_ret
      exact ⟨rfl,rfl⟩
  have h0:¬n < 0:=by omega
  have h1:¬65535 < n:=by omega
  obtain ⟨n,rfl⟩:=Int.eq_ofNat_of_zero_le (a:=n) (by omega)
  have hn:n < 65536:=by omega
  clear hno
  by_cases h10:n < 10
  · rw [oBd h10]
    have HX:=aA (Hex01_any n 1 w (by omega) (by decide))
    have h10':(n:Int) < 10:=by omega
    clear h10 hn
    go_enter Tryz.func73,Tryz.ntmps73
    go_wp2_with (go_at_call 46;refine HX.out.mono ?_;rintro e w1 ⟨⟨s,rfl,hs⟩,rfl⟩;have HS:=aA hs;clear hs)
    go_ret
    exact ⟨oAs (by rw [←HS.out]),rfl⟩
  · rw [oBz (by omega) (by omega)]
    have HX:=aA (Hex01_any n 4 w (by omega) (by decide))
    have h10':¬(n:Int) < 10:=by omega
    have HN:=aA hn
    have HTN:=aA h10
    have HP:=aA (oAi n)
    clear h10 hn
    go_enter Tryz.func73,Tryz.ntmps73
    go_upto_region 6 with (go_at_call 46;refine HX.out.mono ?_;rintro e w1 ⟨⟨s0,rfl,hs⟩,rfl⟩;have HS:=aA hs;clear hs)
    clear h0 h1 h10' HX
    go_loopw [3] (fun x wr=>∃(j:Nat) (s:ByteArray),x=.string s∧oAf n≤j+1∧j≤3∧s.data.toList=qG n (j+1)∧wr=w) (fun x _=>match x with | .string s=>s.size | _=>0)
    case atStart=>exact ⟨3,s0,rfl,HP.out.2,Nat.le_refl _,HS.out,rfl⟩
    case round=>
      obtain ⟨j,s,rfl,hj,hj3,hs,rfl⟩:=hrel
      have hsz:s.size=j+1:=by have:=congrArg List.length hs;rw [oAk] at this;simpa using this
      have h00:0 < s.size:=by omega
      have HS:=aA hs
      have HSZ:=aA hsz
      have HJ:=aA hj
      clear hs hj
      by_cases hst:oAf n≤j
      · have hlt:n < 16 ^ j:=Nat.lt_of_lt_of_le (oDa HN.out) (Nat.pow_le_pow_right (by decide) hst)
        have hsx:=HS.out
        rw [oCt hlt] at hsx
        have hq:((s[0].toNat:Int)==48)=true:=by rw [oDq hsx h00];rfl
        have HC:=aA (oFq hsx (oAk j n))
        have HST:=aA hst
        clear hsx hlt hst
        go_wp2
        exact ⟨⟨j - 1,_,rfl,by have:=HST.out;have:=HP.out.1;omega,by omega,by rw [HC.out];have:=HST.out;have:=HP.out.1;rw [show j - 1+1=j by omega],trivial⟩,by
          have h1:=congrArg List.length HC.out
          rw [oAk] at h1
          have h2:(s.extract 1 (j+1)).size=j:=h1
          show (s.extract 1 (j+1)).size < s.size
          omega⟩
      · have hje:oAf n=j+1:=by have:=HJ.out;omega
        obtain ⟨t,h5,h6,h7⟩:=oBm HN.out
        have h8:=h7 (by have:=HTN.out;omega)
        have hW:s.data.toList=oCo n:=by unfold oCo;rw [hje];exact HS.out
        have hsx:=hW.trans h5
        have HW:=aA hW
        have z:=oCg ⟨_,h6⟩
        have g:=(oCw ⟨_,h6⟩).2
        dsimp only at z g
        have hgt:=oDq hsx h00
        have hq:((s[0].toNat:Int)==48)=false:=by
          rw [hgt]
          have e:(DA.getD (n / 16 ^ (oAf n - 1)) 0==48)=false:=by rw [z];exact decide_eq_false (by omega)
          rw [beq_eq_false_iff_ne] at e ⊢
          intro h
          exact e (UInt8.toNat_inj.1 (by show _=48;omega))
        cases hbg:oHl n
        · have h65:¬(65:Int)≤(s[0].toNat:Int):=by
            rw [hgt]
            have:¬65≤(DA.getD (n / 16 ^ (oAf n - 1)) 0).toNat:=of_decide_eq_false (g.trans hbg)
            omega
          clear hgt z g hsx h5 h6 h7 h8 hje hst hW
          go_wp2
          go_ret
          exact ⟨oAs (by rw [nzH,hbg,if_neg (by decide)];exact oAd (by rw [oAb,HW.out])),rfl⟩
        · have h65:(65:Int)≤(s[0].toNat:Int):=by
            rw [hgt]
            have:65≤(DA.getD (n / 16 ^ (oAf n - 1)) 0).toNat:=of_decide_eq_true (g.trans hbg)
            omega
          clear hgt z g hsx h5 h6 h7 h8 hje hst hW
          go_wp2
          go_ret
          exact ⟨oAs (by rw [nzH,hbg,if_pos rfl];exact oAd (by rw [oAb,oAb,HW.out];rfl)),rfl⟩
theorem oAp (n:Int) (w:World) (hT:Deb w):Calls Tryz.prog 75 #[.int .i64 n] w fun e w'=>e=.returned (.string ⟨(oAc n).toArray⟩)∧RowKit.Below w.heap.size w w':=by
  have HF:=aA (fun b W h=>sV 0 65535 n b W h)
  have HB0:Hid (RowKit.Below w.heap.size w (w.alloc (.cells #[.int .i64 n] 3))):=(Below.refl _ _).alloc (Nat.le_refl _) _
  have HC0:=aA (Blk.cell (Blk.new w 3 #[.int .i64 n]) 0)
  by_cases hno:n < 0∨65535 < n
  · rw [oDo hno]
    rw [show bG 0 65535 n=false by unfold bG;rw [Bool.and_eq_false_iff,decide_eq_false_iff_not,decide_eq_false_iff_not];omega] at HF
    clear hno hT
    go_enter Tryz.func75,Tryz.ntmps75
    go_wp2_with (go_at_call 38;refine (HF.out _ _ HC0.out).mono ?_;rintro e w1 ⟨rfl,rfl⟩)
    go_ret
    exact ⟨rfl,HB0.out⟩
  obtain ⟨n,rfl⟩:=Int.eq_ofNat_of_zero_le (a:=n) (by omega)
  have hn:n < 65536:=by omega
  rw [show bG 0 65535 (n:Int)=true by unfold bG;rw [Bool.and_eq_true,decide_eq_true_iff,decide_eq_true_iff];omega] at HF
  clear hno
  by_cases h10:n < 10
  · rw [oBd h10]
    have HX:=aA (fun W=>oEb n h10 W)
    have h10':(n:Int)≤9:=by omega
    clear h10 hn hT
    go_enter Tryz.func75,Tryz.ntmps75
    go_wp2_with (first
      | (go_at_call 38;refine (HF.out _ _ HC0.out).mono ?_;rintro e w1 ⟨rfl,rfl⟩)
      | (go_at_call 111;refine (HX.out _).mono ?_;rintro e w1 ⟨rfl,rfl⟩))
    go_ret
    exact ⟨rfl,HB0.out⟩
  · rw [oBz (by omega) (by omega)]
    have h10':¬(n:Int)≤9:=by omega
    have HX:=aA (fun W (hb:RowKit.Below w.heap.size w W)=>oCy n hn W (hT.below hb))
    have HU:=aA (fun W=>wK ⟨(oAu n (oAf n)).toArray⟩ W (by
      show (oAu n (oAf n)).toArray.size≤_
      rw [List.size_toArray,oCb]
      have:=(oAi n).2
      omega))
    have hup:dG ⟨(oAu n (oAf n)).toArray⟩=⟨(oCo n).toArray⟩:=by
      unfold dG oCo
      rw [←oDp]
    rw [hup] at HU
    obtain ⟨t,h5,h6,h7⟩:=oBm hn
    have g:=(oCw ⟨_,h6⟩).1
    dsimp only at g
    obtain ⟨L,hL⟩:∃L:ByteArray,L=⟨(oAu n (oAf n)).toArray⟩:=⟨_,rfl⟩
    obtain ⟨S,hS⟩:∃S:ByteArray,S=⟨(oCo n).toArray⟩:=⟨_,rfl⟩
    have hSl:S.data.toList=oCo n:=by rw [hS]
    have hSH:(S++⟨#[72]⟩:ByteArray).data.toList=DA.getD (n / 16 ^ (oAf n - 1)) 0::(t++[72]):=by rw [oAb,hSl,h5];rfl
    have h00:0 < (S++⟨#[72]⟩:ByteArray).size:=by
      have:=congrArg List.length hSH
      have e:(S++⟨#[72]⟩:ByteArray).size=(S++⟨#[72]⟩:ByteArray).data.toList.length:=by simp;rfl
      rw [e,this]
      simp
    have hgt:=oDq hSH h00
    rw [←hL] at HX HU
    rw [←hS] at HU
    have HSL:=aA hSl
    have hss:S.size≤10:=by
      have:=congrArg List.length hSl
      have h4:=oCh n
      simp at this
      omega
    cases hbg:oHl n
    · have h57:¬(57:Int) < ((S++⟨#[72]⟩:ByteArray)[0].toNat:Int):=by
        rw [hgt]
        have:¬57 < (DA.getD (n / 16 ^ (oAf n - 1)) 0).toNat:=of_decide_eq_false (g.trans hbg)
        omega
      clear hgt g h5 h6 h7 hS hL hSl hSH hup hT hn h10
      go_enter Tryz.func75,Tryz.ntmps75
      go_wp2_with (first
        | (go_at_call 38;refine (HF.out _ _ HC0.out).mono ?_;rintro e w1 ⟨rfl,rfl⟩)
        | (go_at_call 112;refine (HX.out _ HB0.out).mono ?_;rintro e w2 ⟨rfl,hb⟩;have HB2:=aA (HB0.out.trans (hb.mono HB0.out.size));clear hb)
        | (go_at_call 50;refine (HU.out _).mono ?_;rintro e w3 ⟨rfl,hb⟩;have HB3:=aA (HB2.out.trans (hb.mono HB2.out.size));clear hb))
      go_ret
      exact ⟨oAs (by rw [nzH,hbg,if_neg (by decide)];exact oAd (by rw [oAb,HSL.out])),HB3.out⟩
    · have h57:(57:Int) < ((S++⟨#[72]⟩:ByteArray)[0].toNat:Int):=by
        rw [hgt]
        have:57 < (DA.getD (n / 16 ^ (oAf n - 1)) 0).toNat:=of_decide_eq_true (g.trans hbg)
        omega
      clear hgt g h5 h6 h7 hS hL hSl hSH hup hT hn h10
      go_enter Tryz.func75,Tryz.ntmps75
      go_wp2_with (first
        | (go_at_call 38;refine (HF.out _ _ HC0.out).mono ?_;rintro e w1 ⟨rfl,rfl⟩)
        | (go_at_call 112;refine (HX.out _ HB0.out).mono ?_;rintro e w2 ⟨rfl,hb⟩;have HB2:=aA (HB0.out.trans (hb.mono HB0.out.size));clear hb)
        | (go_at_call 50;refine (HU.out _).mono ?_;rintro e w3 ⟨rfl,hb⟩;have HB3:=aA (HB2.out.trans (hb.mono HB2.out.size));clear hb))
      go_ret
      exact ⟨oAs (by rw [nzH,hbg,if_pos rfl];exact oAd (by rw [oAb,oAb,HSL.out];rfl)),HB3.out⟩
end Go.Proofs.YtcgheipmnphbjaaGreatDoor
