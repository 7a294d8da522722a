/-
  The printed form of a number, in plain words. Conditions: none. The printed forms of operands and instructions, in plain words. Conditions: none. The printed form of a number: strconv.FormatInt and Itoa, num.Text, breadboardref01.Text. Conditions: the library's table as its initialiser lays it. The printed forms of instructions, bytes, items, rows and tables, in plain words. Conditions: none. operand.Text and breadboardref06.Text. Conditions: the library's table as its initialiser lays it.
-/
import Derived.Test.YtpigbggoiipmhaaGreatDoorBP1
namespace Go.Proofs.YtpigbggoiipmhaaGreatDoor
open Go.RowKit Go.Shelf Go.Sort
theorem oAk:∀(k n:Nat),(qG n k).length=k
  | 0,_=>rfl
  | k+1,n=>by rw [qG,List.length_append,oAk k];rfl
def oAf (n:Nat):Nat:=if n < 16 then 1 else if n < 256 then 2 else if n < 4096 then 3 else 4
def oCo (n:Nat):List UInt8:=qG n (oAf n)
def oHl (n:Nat):Bool:=decide (10≤n / 16 ^ (oAf n - 1))
def nzH (n:Nat):List UInt8:=if oHl n=true then 48::oCo n else oCo n
def oAc (n:Int):List UInt8:=if n < 0∨65535 < n then [] else if n < 10 then qG n.toNat 1 else nzH n.toNat++[72]
theorem oAo:∀(k n:Nat),qG n (k+1)=DA.getD (n / 16 ^ k % 16) 0::qG n k
  | 0,n=>by simp [qG]
  | k+1,n=>by
    rw [qG,oAo k (n / 16),qG,List.cons_append,Nat.div_div_eq_div_mul,Nat.pow_succ,Nat.mul_comm (16 ^ k) 16]
theorem oCg:∀d:Fin 16,(DA.getD d.val 0==48)=decide (d.val=0):=by decide
theorem oCw:∀d:Fin 16,(decide (57 < (DA.getD d.val 0).toNat)=decide (10≤d.val))∧(decide (65≤(DA.getD d.val 0).toNat)=decide (10≤d.val)):=by decide
theorem oAi (n:Nat):1≤oAf n∧oAf n≤4:=by
  unfold oAf
  by_cases h1:n < 16
  · rw [if_pos h1];decide
  · by_cases h2:n < 256
    · rw [if_neg h1,if_pos h2];decide
    · by_cases h3:n < 4096
      · rw [if_neg h1,if_neg h2,if_pos h3];decide
      · rw [if_neg h1,if_neg h2,if_neg h3];decide
theorem oDa {n:Nat} (h:n < 65536):n < 16 ^ oAf n:=by
  unfold oAf
  split
  · omega
  · split
    · omega
    · split<;>omega
theorem oFb {n j:Nat} (h:j+1 < oAf n):16 ^ (j+1)≤n:=by
  unfold oAf at h
  have hj:j=0∨j=1∨j=2∨3≤j:=by omega
  split at h
  · omega
  · split at h
    · obtain rfl:j=0:=by omega
      omega
    · split at h
      · rcases hj with rfl | rfl | hj<;>omega
      · rcases hj with rfl | rfl | rfl | hj<;>omega
theorem oBm {n:Nat} (h:n < 65536):∃t,oCo n=DA.getD (n / 16 ^ (oAf n - 1)) 0::t∧n / 16 ^ (oAf n - 1) < 16∧(10≤n→1≤n / 16 ^ (oAf n - 1)):=by
  have h1:=oAi n
  have h2:=oDa h
  have h3:=oFb (n:=n) (j:=oAf n - 2)
  obtain ⟨k,hk⟩:∃k,oAf n=k+1:=⟨oAf n - 1,by omega⟩
  unfold oCo
  rw [hk] at h2 h3 ⊢
  rw [Nat.add_sub_cancel]
  have h4:n / 16 ^ k < 16:=by
    rw [Nat.div_lt_iff_lt_mul (Nat.pow_pos (by decide))]
    rw [Nat.pow_succ,Nat.mul_comm] at h2
    exact h2
  refine ⟨qG n k,by rw [oAo,Nat.mod_eq_of_lt h4],h4,fun h10=>?_⟩
  cases k with
  | zero=>omega
  | succ j=>
    have h5:=h3 (by omega)
    rw [show j+1+1 - 2+1=j+1 by omega] at h5
    exact (Nat.le_div_iff_mul_le (Nat.pow_pos (by decide))).2 (by omega)
theorem oCt {n j:Nat} (h:n < 16 ^ j):qG n (j+1)=48::qG n j:=by
  rw [oAo,Nat.div_eq_of_lt h]
  rfl
theorem oFi {n j:Nat} (h:n < 16 ^ (j+1)) (hn:16 ^ j≤n):∃c t,qG n (j+1)=c::t∧(c==48)=false:=by
  have h4:n / 16 ^ j < 16:=by
    rw [Nat.div_lt_iff_lt_mul (Nat.pow_pos (by decide))]
    rw [Nat.pow_succ,Nat.mul_comm] at h
    exact h
  have h5:1≤n / 16 ^ j:=(Nat.le_div_iff_mul_le (Nat.pow_pos (by decide))).2 (by omega)
  refine ⟨_,_,oAo j n,?_⟩
  rw [Nat.mod_eq_of_lt h4,oCg ⟨_,h4⟩]
  exact decide_eq_false (by dsimp only;omega)
def oDu:List UInt8:=[48,49,50,51,52,53,54,55,56,57,97,98,99,100,101,102]
def oAu (n:Nat):Nat→List UInt8
  | 0=>[]
  | k+1=>oAu (n / 16) k++[oDu.getD (n % 16) 0]
theorem oEu:∀d:Fin 16,up (oDu.getD d.val 0)=DA.getD d.val 0:=by decide
theorem oDp:∀(k n:Nat),(oAu n k).map up=qG n k
  | 0,_=>rfl
  | k+1,n=>by
    rw [oAu,List.map_append,oDp k,qG]
    congr 1
    exact congrArg (fun x=>[x]) (oEu ⟨n % 16,Nat.mod_lt _ (by decide)⟩)
theorem oCb:∀(k n:Nat),(oAu n k).length=k
  | 0,_=>rfl
  | k+1,n=>by rw [oAu,List.length_append,oCb k];rfl
theorem oCv:∀(k n:Nat),oAu n (k+1)=oDu.getD (n / 16 ^ k % 16) 0::oAu n k
  | 0,n=>by simp [oAu]
  | k+1,n=>by
    rw [oAu,oCv k (n / 16),oAu,List.cons_append,Nat.div_div_eq_div_mul,Nat.pow_succ,Nat.mul_comm (16 ^ k) 16]
theorem oCh (n:Nat):(oCo n).length≤4:=by unfold oCo;rw [oAk];exact (oAi n).2
theorem oAa (n:Int):(oAc n).length≤6:=by
  unfold oAc nzH
  split
  · decide
  · split
    · rw [oAk];decide
    · have:=oCh n.toNat
      split<;>simp<;>omega
theorem oBd {n:Nat} (h:n < 10):oAc n=qG n 1:=by unfold oAc;rw [if_neg (by omega),if_pos (by omega)];rfl
theorem oBz {n:Nat} (h:10≤n) (h2:n≤65535):oAc n=nzH n++[72]:=by unfold oAc;rw [if_neg (by omega),if_neg (by omega)];rfl
theorem oDo {n:Int} (h:n < 0∨65535 < n):oAc n=[]:=if_pos h
def oAg (n:Int):List UInt8:=if n < 0 then 45::oAc (-n) else 43::oAc n
def opT (o:Opd):List UInt8:=
  if aC o=true then
    (if o.kind=5 then 40::((aQ 5 o.reg).toList++(oAg o.n++[41]))
     else if o.kind=6 then (if o.n < 0 then oAg o.n else oAc o.n)
     else if o.kind=7 then 40::(oAc o.n++[41])
     else if o.kind=10 then 36::oAg (o.n+2)
     else (aQ o.kind o.reg).toList)
  else []
def gdC (c:UInt8):Bool:=decide (32 < c.toNat)&&decide (c.toNat≠44)
def gdL (l:List UInt8):Prop:=l≠[]∧l.all gdC=true
theorem gdL.cons {c:UInt8} {l:List UInt8} (hc:gdC c=true) (h:l.all gdC=true):gdL (c::l):=⟨List.cons_ne_nil _ _,by rw [List.all_cons,hc,h];rfl⟩
theorem oAx:∀(k n:Nat),(qG n k).all gdC=true
  | 0,_=>rfl
  | k+1,n=>by
    have h:∀d:Fin 16,gdC (DA.getD d.val 0)=true:=by decide
    rw [qG,List.all_append,oAx k,List.all_cons,h ⟨n % 16,Nat.mod_lt _ (by decide)⟩]
    rfl
theorem oAw {n:Int} (h0:0≤n) (h1:n≤65535):gdL (oAc n):=by
  unfold oAc
  rw [if_neg (by omega)]
  by_cases h:n < 10
  · rw [if_pos h]
    exact ⟨fun e=>(by have:=congrArg List.length e;rw [oAk] at this;cases this),oAx _ _⟩
  · rw [if_neg h]
    refine ⟨by simp,?_⟩
    unfold nzH oCo
    split
    · rw [List.all_append,List.all_cons,oAx];rfl
    · rw [List.all_append,oAx];rfl
theorem oBw {n:Int} (h0:-65535≤n) (h1:n≤65535):gdL (oAg n):=by
  unfold oAg
  split
  · exact gdL.cons rfl (oAw (by omega) (by omega)).2
  · exact gdL.cons rfl (oAw (by omega) (by omega)).2
theorem oEv (k:Int):((dM k).all fun s=>s.toList.all gdC)=true:=by
  unfold dM
  split
  · decide+kernel
  · split
    · decide+kernel
    · split
      · decide+kernel
      · split
        · decide+kernel
        · split
          · decide+kernel
          · split
            · decide+kernel
            · split
              · decide+kernel
              · rfl
theorem oBf:(⟨#[]⟩:ByteArray).toList=[]:=by decide+kernel
theorem oBk (k r:Int):(aQ k r).toList.all gdC=true:=by
  unfold aQ dZ
  split
  · rw [oBf];rfl
  · cases h:(dM k)[r.toNat]? with
    | none=>rw [Option.getD_none,oBf];rfl
    | some s=>exact List.all_eq_true.1 (oEv k) s (List.mem_of_getElem? h)
theorem oEq {o:Opd} (h:aC o=true):gdL (opT o):=by
  unfold opT
  rw [if_pos h]
  unfold aC at h
  obtain ⟨k,r,n⟩:=o
  dsimp only at *
  by_cases h5:k=5
  · subst h5
    rw [if_neg (by decide),if_pos (by decide)] at h
    rw [if_pos rfl]
    simp only [Bool.and_eq_true,decide_eq_true_eq] at h
    exact gdL.cons rfl (by rw [List.all_append,oBk,List.all_append,(oBw (by omega) (by omega)).2];rfl)
  by_cases h6:k=6
  · subst h6
    rw [if_neg (by decide),if_neg (by decide),if_pos (by decide)] at h
    rw [if_neg (by decide),if_pos rfl]
    simp only [Bool.and_eq_true,decide_eq_true_eq] at h
    split
    · exact oBw (by omega) (by omega)
    · exact oAw (by omega) (by omega)
  by_cases h7:k=7
  · subst h7
    rw [if_neg (by decide),if_neg (by decide),if_neg (by decide),if_pos (by decide)] at h
    rw [if_neg (by decide),if_neg (by decide),if_pos rfl]
    simp only [Bool.and_eq_true,decide_eq_true_eq] at h
    exact gdL.cons rfl (by rw [List.all_append,(oAw (by omega) (by omega)).2];rfl)
  by_cases h10:k=10
  · subst h10
    rw [if_neg (by decide),if_neg (by decide),if_neg (by decide),if_neg (by decide),if_pos (by decide)] at h
    rw [if_neg (by decide),if_neg (by decide),if_neg (by decide),if_pos rfl]
    simp only [Bool.and_eq_true,decide_eq_true_eq] at h
    exact gdL.cons rfl (oBw (by omega) (by omega)).2
  rw [if_neg h5,if_neg h6,if_neg h7,if_neg h10]
  refine ⟨fun e=>?_,oBk k r⟩
  have b5:(k==5)=false:=by rw [beq_eq_false_iff_ne];exact h5
  have b6:(k==6)=false:=by rw [beq_eq_false_iff_ne];exact h6
  have b7:(k==7)=false:=by rw [beq_eq_false_iff_ne];exact h7
  have b10:(k==10)=false:=by rw [beq_eq_false_iff_ne];exact h10
  rw [b5,b6,b7,b10,e] at h
  split at h
  · simp at h
  · simp at h
def oAq (b:List UInt8):List UInt8:=if b=[] then [] else [68,69,70,66,32]++Lib.join (b.map fun c=>oAc (c.toNat:Int)) [44]
def oBp (l:List Opd):List UInt8:=Lib.join (l.map opT) [44]
def oEr (s:List UInt8) (l:List Opd):List UInt8:=if l=[] then s else s++32::oBp l
theorem oAl:∀(l:List (List UInt8)) (x:List UInt8),(∀y∈x::l,gdL y)→∃c,(x++Lib.joinTail [44] l).getLast?=some c∧gdC c=true
  | [],x,h=>by
    obtain ⟨h1,h2⟩:=h x List.mem_cons_self
    refine ⟨x.getLast h1,?_,List.all_eq_true.1 h2 _ (List.getLast_mem h1)⟩
    show (x++[]).getLast?=_
    rw [List.append_nil]
    exact List.getLast?_eq_some_getLast h1
  | y::l,x,h=>by
    obtain ⟨c,h1,h2⟩:=oAl l y (fun z hz=>h z (List.mem_cons_of_mem _ hz))
    refine ⟨c,?_,h2⟩
    show (x++(([44]++y)++Lib.joinTail [44] l)).getLast?=_
    rw [List.append_assoc [44],←List.append_assoc,List.getLast?_append,h1]
    rfl
theorem oCx {A B:List UInt8} {c:UInt8} (h:B.getLast?=some c) (hc:gdC c=true):Lib.trimSuffix (A++B) [32]=A++B:=by
  unfold Lib.trimSuffix Lib.hasSuffix
  rw [if_neg]
  intro hs
  rw [List.isSuffixOf_iff_suffix] at hs
  obtain ⟨t,ht⟩:=hs
  have:=congrArg List.getLast? ht
  rw [List.getLast?_append,List.getLast?_append,h] at this
  simp at this
  subst this
  revert hc
  decide
theorem oEc (s:List UInt8) (l:List Opd) (h:∀o∈l,aC o=true):Lib.trimSuffix (s++[32]++oBp l) [32]=oEr s l:=by
  unfold oEr oBp
  cases l with
  | nil=>
    rw [if_pos rfl]
    show Lib.trimSuffix (s++[32]++[]) [32]=s
    rw [List.append_nil]
    unfold Lib.trimSuffix Lib.hasSuffix
    rw [if_pos (by rw [List.isSuffixOf_iff_suffix];exact List.suffix_append s [32])]
    rw [List.length_append,List.length_singleton,Nat.add_sub_cancel,List.take_left]
  | cons o r=>
    rw [if_neg (List.cons_ne_nil _ _),List.map_cons,Lib.join_cons]
    obtain ⟨c,h1,h2⟩:=oAl (r.map opT) (opT o) (fun y hy=>by
      rw [←List.map_cons (f:=opT)] at hy
      obtain ⟨z,hz,rfl⟩:=List.mem_map.1 hy
      exact oEq (h z hz))
    rw [oCx h1 h2,List.append_assoc]
    rfl
end Go.Proofs.YtpigbggoiipmhaaGreatDoor
namespace Go.Proofs.YtpigbggoiipmhaaGreatDoor
set_option maxHeartbeats 2000000
set_option maxRecDepth 100000
open Go.RowKit Go.Shelf Go.Sort
def dgS:ByteArray:=⟨#[48,49,50,51,52,53,54,55,56,57,97,98,99,100,101,102,103,104,105,106,107,108,109,110,111,112,113,114,115,116,117,118,119,120,121,122]⟩
theorem oFk:∀d:Fin 16,dgS[d.val]'(by show _ < 36;omega)=oDu.getD d.val 0:=by decide
theorem oCd (m:Nat) (w:World):(Instr.index 9 (.string ⟨#[48,49,50,51,52,53,54,55,56,57,97,98,99,100,101,102,103,104,105,106,107,108,109,110,111,112,113,114,115,116,117,118,119,120,121,122]⟩) (.int .u64 ((m:Int) % 16))).run Tryz.prog w=.ok (.int .u8 ((oDu.getD (m % 16) 0).toNat:Nat)) w:=by
  have hu:Tryz.prog.underlying 9=some .string:=by kernel_rfl
  have h1:0≤(m:Int) % 16∧(m:Int) % 16 < (dgS.size:Nat):=⟨by omega,by show (m:Int) % 16 < 36;omega⟩
  have e:=run_index_string (P:=Tryz.prog) w 9 dgS .u64 ((m:Int) % 16) hu
  rw [dif_pos h1] at e
  have e2:((m:Int) % 16).toNat=m % 16:=by omega
  have e3:dgS[((m:Int) % 16).toNat]'(by show _ < 36;omega)=oDu.getD (m % 16) 0:=by
    have:=oFk ⟨m % 16,Nat.mod_lt _ (by omega)⟩
    rw [←this]
    congr 1
  rw [e3] at e
  exact e
theorem oDc (m:Nat) (h:m < 65536):bits .and .u64 (m:Int) 15=(m:Int) % 16:=by
  have h15:(BitVec.ofInt 64 15).toNat=2 ^ 4 - 1:=by decide
  have key:(BitVec.ofInt 64 (m:Int)&&& BitVec.ofInt 64 15).toNat=((m:Int) % ((2 ^ 64:Nat):Int)).toNat % 2 ^ 4:=by
    rw [BitVec.toNat_and,BitVec.toNat_ofInt,h15,Nat.and_two_pow_sub_one_eq_mod]
  show IntKind.u64.wrap ((BitVec.ofInt 64 (m:Int)&&& BitVec.ofInt 64 15).toNat:Nat)=(m:Int) % 16
  rw [key,IntKind.wrap_u64]
  omega
theorem tz16:Lib.ctz 64 16=4:=by decide
theorem oFc (w:World) (hT:Deb w):Calls Tryz.prog 277 #[.int .u64 16] w fun e w'=>e=.returned (.int .i64 4)∧w'=w:=by
  have HZ:=aA (RK 16 (by decide) w hT)
  rw [tz16] at HZ
  clear hT
  go_enter Tryz.func277,Tryz.ntmps277
  go_wp2_with (go_at_call 137;refine HZ.out.mono ?_;rintro e w1 ⟨rfl,rfl⟩)
  go_ret
  exact ⟨rfl,rfl⟩
theorem oEd (w:World):Calls Tryz.prog 276 #[.int .i64 16] w fun e w'=>e=.returned (.bool true)∧w'=w:=by
  have hb:bits .and .i64 16 15=0:=by decide
  go_enter Tryz.func276,Tryz.ntmps276
  go_wp2
  go_ret
  exact ⟨rfl,rfl⟩
theorem oFu (w:World):gT (w.alloc (.cells Tryz.zeroCells324 324)) w.heap.size (List.replicate 65 0++[]):=by
  have hz:Tryz.zeroCells324=(List.replicate 65 (Value.int .u8 0)).toArray:=by kernel_rfl
  rw [List.append_nil]
  refine ⟨fun j x hx=>?_,fun j _=>(Blk.new w _ _).free j⟩
  rw [List.getElem?_replicate] at hx
  split at hx
  · rename_i hj
    injection hx with hx
    refine ((Blk.new w 324 Tryz.zeroCells324).cell j).trans ?_
    rw [hz,List.getElem?_toArray,List.getElem?_replicate,if_pos hj,←hx]
    rfl
  · cases hx
theorem oDe (b a:Nat) (ha:a < 65) (w:World):(Instr.sliceAt 324 (.pointer (some ⟨b,0,none⟩)) (some (.int .i64 (a:Int))) none none).run Tryz.prog w=.ok (.slice (some ⟨b,a,none⟩) (65 - a) (65 - a)) w:=by
  have hu:Tryz.prog.underlying 324=some (.array 65 5):=by kernel_rfl
  have he:Tryz.prog.elem 324=5:=by simp [Program.elem,hu]
  have hl:Tryz.prog.arrayLen 324=65:=by simp [Program.arrayLen,hu]
  have hz:(Tryz.prog.info? 5).map (·.size)=some 1:=by kernel_rfl
  have hs:(sizeOf 5).run Tryz.prog w=.ok 1 w:=by
    cases hq:Tryz.prog.info? 5 with
    | none=>simp [hq] at hz
    | some i=>exact (by have h1:i.size=1:=(by simpa [hq] using hz);simp [sizeOf,typeInfo,hq,h1])
  have e:=run_sliceAt_array_l (P:=Tryz.prog) w 324 ⟨b,0,none⟩ (by rw [hl,he];exact hu) .i64 (a:Int) (by omega) (by rw [hl];omega)
  rw [e,he,hs,hl]
  have ea:(⟨b,0,none⟩:Addr).add (a * 1)=⟨b,a,none⟩:=by rw [Nat.mul_one];unfold Addr.add;split<;>simp_all
  have hne:¬(65=a):=by omega
  simp only [Result.andThen,slicedAt,Int.toNat_natCast,ea,if_neg hne]
theorem oBe (w:World) (b z cap:Nat) (l:List UInt8) (h:∀j x,l[j]?=some x→w.cell? ⟨b,z+j,none⟩=some (.int .u8 x.toNat)):(convert 22 9 (.slice (some ⟨b,z,none⟩) l.length cap)).run Tryz.prog w=.ok (.string ⟨l.toArray⟩) w:=
  run_convert_bytes_back w _ _ _ _ cap l Tryz.underlying22 Tryz.underlying5 Tryz.underlying9 (fun j hj=>by
    have hadd:(⟨b,z,none⟩:Addr).add j=⟨b,z+j,none⟩:=by unfold Addr.add;split<;>simp_all
    rw [hadd]
    exact h j _ (List.getElem?_eq_getElem hj))
theorem oBh (c:UInt8) (t:List UInt8):∀j,(List.replicate (j+1) 0++t).set j c=List.replicate j 0++c::t
  | 0=>rfl
  | j+1=>by
    show (0::(List.replicate (j+1) 0++t)).set (j+1) c=0::(List.replicate j 0++c::t)
    rw [List.set_cons_succ,oBh c t j]
theorem oBl {m:Nat} (h:16≤m) (h2:m < 65536):oAf m=oAf (m / 16)+1:=by
  unfold oAf
  by_cases a:m < 256
  · rw [if_neg (by omega),if_pos a,if_pos (by omega)]
  · by_cases b:m < 4096
    · rw [if_neg (by omega),if_neg a,if_pos b,if_neg (by omega),if_pos (by omega)]
    · rw [if_neg (by omega),if_neg a,if_neg b,if_neg (by omega),if_neg (by omega),if_pos (by omega)]
theorem oEj {m:Nat} (h:m < 16):oAf m=1:=if_pos h
theorem oDl {m:Nat} (h:16≤m) (h2:m < 65536) (t:List UInt8):oAu m (oAf m)++t=oAu (m / 16) (oAf (m / 16))++(oDu.getD (m % 16) 0::t):=by
  rw [oBl h h2,oAu,List.append_assoc]
  rfl
theorem oEi {m:Nat} (h:m < 16) (t:List UInt8):oAu m (oAf m)++t=oDu.getD (m % 16) 0::t:=by
  rw [oEj h]
  rfl
theorem oBt (n:Nat) (hn:n < 65536) (w:World) (hT:Deb w):Calls Tryz.prog 254 #[.slice none 0 0,.int .u64 (n:Int),.int .i64 16,.bool false,.bool false] w fun e w'=>e=.returned (.tuple #[.slice none 0 0,.string ⟨(oAu n (oAf n)).toArray⟩])∧Below w.heap.size w w':=by
  have HP:=aA oEd
  have HZ:=aA (fun W (hb:RowKit.Below w.heap.size w W)=>oFc W (hT.below hb))
  clear hT
  go_enter Tryz.func254,Tryz.ntmps254
  go_upto_region 11 with (first
    | (go_at_call 276;refine (HP.out _).mono ?_;rintro e w1 ⟨rfl,rfl⟩)
    | (go_at_call 277;refine (HZ.out _ ((Below.refl _ _).alloc (Nat.le_refl _) _)).mono ?_;rintro e w2 ⟨rfl,rfl⟩))
  have HB0:Hid (RowKit.Below w.heap.size w (w.alloc (.cells Tryz.zeroCells324 324))):=(Below.refl _ _).alloc (Nat.le_refl _) _
  have HR0:=aA (oFu w)
  obtain ⟨W0,hW0⟩:∃W,W=w.alloc (.cells Tryz.zeroCells324 324):=⟨_,rfl⟩
  rw [←hW0] at HB0 HR0 ⊢
  clear hW0
  have HLB:=aA (oAi n)
  generalize hb9:w.heap.size=b9 at *
  have HB9:=aA hb9
  clear hb9
  go_loopw [1,13] (fun x z wr=>∃(m k:Nat) (t:List UInt8),x=.int .u64 m∧z=.int .i64 k∧m < 65536∧k+t.length=65∧t.length+oAf m≤4∧oAu n (oAf n)=oAu m (oAf m)++t∧gT wr b9 (List.replicate k 0++t)∧RowKit.Below b9 w wr) (fun x _ _=>(intOf x).toNat)
  case atStart=>exact ⟨n,65,[],rfl,rfl,hn,rfl,by have:=HLB.out.2;simpa using this,by simp,HR0.out,HB0.out⟩
  case round=>
    obtain ⟨m,k,t,rfl,rfl,hm,hk,hl,hx,hr,hb⟩:=hrel
    have HX:=aA hx
    have HR:=aA hr
    have HB:=aA hb
    have HL:=aA hl
    have HK:=aA hk
    have hk4:61≤k:=by have:=(oAi m).1;omega
    obtain ⟨k,rfl⟩:∃j,k=j+1:=⟨k - 1,by omega⟩
    have hk5:k≤64:=by omega
    clear hx hr hb hl hk hk4
    have hf:=HR.out.free k (by simp;omega)
    have hc:=HR.out.cell k 0 (by rw [List.getElem?_append_left (by simp),List.getElem?_replicate,if_pos (by omega)])
    by_cases h16:16≤m
    · have hand:=oDc m hm
      have hidx:=oCd m
      have HS:=aA (oDl h16 hm t)
      have HLS:=aA (oBl h16 hm)
      generalize oDu.getD (m % 16) 0=c at *
      go_wp2
      exact ⟨⟨m / 16,k,c::t,by go_num,rfl,by omega,by have:=HK.out;simp;omega,by have:=HL.out;have:=HLS.out;simp;omega,HX.out.trans HS.out,by rw [←oBh];exact HR.out.set k c,HB.out.setCell (p:=⟨b9,k,none⟩) (Nat.le_refl _) _⟩,by simp [intOf];omega⟩
    · have hidx:∀W,_:=fun W=>oCd m W
      rw [show (m:Int) % 16=m by omega] at hidx
      have hcut:=oDe b9 k (by omega)
      have HS:=aA (oEi (m:=m) (by omega) t)
      generalize oDu.getD (m % 16) 0=c at *
      have HR2:Hid (gT (wr.setCell ⟨b9,k,none⟩ (.int .u8 c.toNat)) b9 (List.replicate k 0++c::t)):=by rw [←oBh];exact HR.out.set k c
      have HB2:=aA (HB.out.setCell (p:=⟨b9,k,none⟩) (Nat.le_refl _) (.int .u8 c.toNat))
      obtain ⟨W2,hW2⟩:∃W,W=wr.setCell ⟨b9,k,none⟩ (.int .u8 c.toNat):=⟨_,rfl⟩
      have hstr:=oBe W2 b9 k (65 - k) (c::t) (fun j x hx=>by
        rw [hW2]
        exact HR2.out.cell (k+j) x (by rw [List.getElem?_append_right (by simp),List.length_replicate,Nat.add_sub_cancel_left];exact hx))
      rw [show (c::t).length=65 - k by have:=HK.out;simp;omega] at hstr
      rw [←HX.out.trans HS.out,hW2] at hstr
      go_wp2
      go_ret2
      exact ⟨rfl,by rw [HB9.out];exact HB2.out⟩
theorem oCy (n:Nat) (hn:n < 65536) (w:World) (hT:Deb w):Calls Tryz.prog 164 #[.int .i64 (n:Int),.int .i64 16] w fun e w'=>e=.returned (.string ⟨(oAu n (oAf n)).toArray⟩)∧Below w.heap.size w w':=by
  have h1:Calls Tryz.prog 216 #[.int .i64 (n:Int),.int .i64 16] w fun e w'=>e=.returned (.string ⟨(oAu n (oAf n)).toArray⟩)∧Below w.heap.size w w':=by
    have HF:=aA (oBt n hn w hT)
    have h0:(0:Int)≤(n:Int):=by omega
    have h6:(n:Int) < 65536:=by omega
    clear hn hT
    go_enter Tryz.func216,Tryz.ntmps216
    go_wp2_with (go_at_call 254;refine HF.out.mono ?_;rintro e w1 ⟨rfl,hb⟩;have HB:=aA hb;clear hb)
    go_ret
    exact ⟨rfl,HB.out⟩
  have HF:=aA h1
  clear h1 hT hn
  go_enter Tryz.func164,Tryz.ntmps164
  go_wp2_with (go_at_call 216;refine HF.out.mono ?_;rintro e w1 ⟨rfl,hb⟩;have HB:=aA hb;clear hb)
  go_ret
  exact ⟨rfl,HB.out⟩
theorem oDb (n:Nat) (hn:n < 10) (w:World):(Instr.sliceAt 9 (.string ⟨#[48,49,50,51,52,53,54,55,56,57,97,98,99,100,101,102,103,104,105,106,107,108,109,110,111,112,113,114,115,116,117,118,119,120,121,122]⟩) (some (.int .i64 (n:Int))) (some (.int .i64 ((n:Int)+1))) none).run Tryz.prog w=.ok (.string ⟨(qG n 1).toArray⟩) w:=by
  have hu:Tryz.prog.underlying 9=some .string:=by kernel_rfl
  rw [run_sliceAt_string _ _ _ _ _ _ hu,run_slice_string_if _ _ _ _ _ _ _ hu,if_pos ⟨by omega,by show (n:Int)+1≤36;omega⟩,if_pos ⟨by omega,by omega⟩]
  have e:((n:Int)+1).toNat=n+1:=by omega
  rw [e,Int.toNat_natCast]
  obtain h | h | h | h | h | h | h | h | h | h:n=0∨n=1∨n=2∨n=3∨n=4∨n=5∨n=6∨n=7∨n=8∨n=9:=by omega
  all_goals subst h;rfl
theorem oEb (n:Nat) (hn:n < 10) (w:World):Calls Tryz.prog 163 #[.int .i64 (n:Int)] w fun e w'=>e=.returned (.string ⟨(qG n 1).toArray⟩)∧w'=w:=by
  have h0:(0:Int)≤(n:Int):=by omega
  have h6:(n:Int) < 10:=by omega
  have hrun:=oDb n hn
  have h1:Calls Tryz.prog 251 #[.int .i64 (n:Int)] w fun e w'=>e=.returned (.string ⟨(qG n 1).toArray⟩)∧w'=w:=by
    clear hn
    go_enter Tryz.func251,Tryz.ntmps251
    go_wp2
    go_ret
    exact ⟨rfl,rfl⟩
  have H1:=aA h1
  have h2:Calls Tryz.prog 216 #[.int .i64 (n:Int),.int .i64 10] w fun e w'=>e=.returned (.string ⟨(qG n 1).toArray⟩)∧w'=w:=by
    clear hn hrun h1
    go_enter Tryz.func216,Tryz.ntmps216
    go_wp2_with (go_at_call 251;refine H1.out.mono ?_;rintro e w1 ⟨rfl,rfl⟩)
    go_ret
    exact ⟨rfl,rfl⟩
  have H2:=aA h2
  have h3:Calls Tryz.prog 215 #[.int .i64 (n:Int)] w fun e w'=>e=.returned (.string ⟨(qG n 1).toArray⟩)∧w'=w:=by
    clear hn hrun h1 h2 H1
    go_enter Tryz.func215,Tryz.ntmps215
    go_wp2_with (go_at_call 216;refine H2.out.mono ?_;rintro e w1 ⟨rfl,rfl⟩)
    go_ret
    exact ⟨rfl,rfl⟩
  have H3:=aA h3
  clear hn hrun h1 h2 h3 H1 H2
  go_enter Tryz.func163,Tryz.ntmps163
  go_wp2_with (go_at_call 215;refine H3.out.mono ?_;rintro e w1 ⟨rfl,rfl⟩)
  go_ret
  exact ⟨rfl,rfl⟩
theorem oAs {a b:ByteArray} (h:a=b):Ending.returned (.string a)=.returned (.string b):=by rw [h]
theorem oAd {a:ByteArray} {l:List UInt8} (h:a.data.toList=l):a=⟨l.toArray⟩:=by
  obtain ⟨d⟩:=a
  rw [←h]
theorem oAb (a b:ByteArray):(a++b).data.toList=a.data.toList++b.data.toList:=by simp
theorem oFq {s:ByteArray} {c:UInt8} {l:List UInt8} {j:Nat} (h:s.data.toList=c::l) (hj:l.length=j):(s.extract 1 (j+1)).data.toList=l:=by
  rw [oAd h]
  simp [←hj]
theorem oDq {s:ByteArray} {c:UInt8} {l:List UInt8} (h:s.data.toList=c::l) (h0:0 < s.size):s[0]=c:=by
  have:=oAd h
  subst this
  rfl
theorem oAh (n:Int) (w:World):Calls Tryz.prog 81 #[.int .i64 n] w fun e w'=>e=.returned (.string ⟨(oAc n).toArray⟩)∧w'=w:=by
  by_cases hno:n < 0∨65535 < n
  · rw [oDo hno]
    rcases hno with h | h
    · go_enter Tryz.func81,Tryz.ntmps81
      go_wp2
      go_ret
      exact ⟨rfl,rfl⟩
    · have h0:¬n < 0:=by omega
      go_enter Tryz.func81,Tryz.ntmps81
      go_wp2
      go_ret
      exact ⟨rfl,rfl⟩
  have h0:¬n < 0:=by omega
  have h1:¬65535 < n:=by omega
  obtain ⟨n,rfl⟩:=Int.eq_ofNat_of_zero_le (a:=n) (by omega)
  have hn:n < 65536:=by omega
  clear hno
  by_cases h10:n < 10
  · rw [oBd h10]
    have HX:=aA (Hex01_any n 1 w (by omega) (by decide))
    have h10':(n:Int) < 10:=by omega
    clear h10 hn
    go_enter Tryz.func81,Tryz.ntmps81
    go_wp2_with (go_at_call 134;refine HX.out.mono ?_;rintro e w1 ⟨⟨s,rfl,hs⟩,rfl⟩;have HS:=aA hs;clear hs)
    go_ret
    exact ⟨oAs (by rw [←HS.out]),rfl⟩
  · rw [oBz (by omega) (by omega)]
    have HX:=aA (Hex01_any n 4 w (by omega) (by decide))
    have h10':¬(n:Int) < 10:=by omega
    have HN:=aA hn
    have HTN:=aA h10
    have HP:=aA (oAi n)
    clear h10 hn
    go_enter Tryz.func81,Tryz.ntmps81
    go_upto_region 6 with (go_at_call 134;refine HX.out.mono ?_;rintro e w1 ⟨⟨s0,rfl,hs⟩,rfl⟩;have HS:=aA hs;clear hs)
    clear h0 h1 h10' HX
    go_loopw [3] (fun x wr=>∃(j:Nat) (s:ByteArray),x=.string s∧oAf n≤j+1∧j≤3∧s.data.toList=qG n (j+1)∧wr=w) (fun x _=>match x with | .string s=>s.size | _=>0)
    case atStart=>exact ⟨3,s0,rfl,HP.out.2,Nat.le_refl _,HS.out,rfl⟩
    case round=>
      obtain ⟨j,s,rfl,hj,hj3,hs,rfl⟩:=hrel
      have hsz:s.size=j+1:=by have:=congrArg List.length hs;rw [oAk] at this;simpa using this
      have h00:0 < s.size:=by omega
      have HS:=aA hs
      have HSZ:=aA hsz
      have HJ:=aA hj
      clear hs hj
      by_cases hst:oAf n≤j
      · have hlt:n < 16 ^ j:=Nat.lt_of_lt_of_le (oDa HN.out) (Nat.pow_le_pow_right (by decide) hst)
        have hsx:=HS.out
        rw [oCt hlt] at hsx
        have hq:((s[0].toNat:Int)==48)=true:=by rw [oDq hsx h00];rfl
        have HC:=aA (oFq hsx (oAk j n))
        have HST:=aA hst
        clear hsx hlt hst
        go_wp2
        exact ⟨⟨j - 1,_,rfl,by have:=HST.out;have:=HP.out.1;omega,by omega,by rw [HC.out];have:=HST.out;have:=HP.out.1;rw [show j - 1+1=j by omega],trivial⟩,by
          have h1:=congrArg List.length HC.out
          rw [oAk] at h1
          have h2:(s.extract 1 (j+1)).size=j:=h1
          show (s.extract 1 (j+1)).size < s.size
          omega⟩
      · have hje:oAf n=j+1:=by have:=HJ.out;omega
        obtain ⟨t,h5,h6,h7⟩:=oBm HN.out
        have h8:=h7 (by have:=HTN.out;omega)
        have hW:s.data.toList=oCo n:=by unfold oCo;rw [hje];exact HS.out
        have hsx:=hW.trans h5
        have HW:=aA hW
        have z:=oCg ⟨_,h6⟩
        have g:=(oCw ⟨_,h6⟩).2
        dsimp only at z g
        have hgt:=oDq hsx h00
        have hq:((s[0].toNat:Int)==48)=false:=by
          rw [hgt]
          have e:(DA.getD (n / 16 ^ (oAf n - 1)) 0==48)=false:=by rw [z];exact decide_eq_false (by omega)
          rw [beq_eq_false_iff_ne] at e ⊢
          intro h
          exact e (UInt8.toNat_inj.1 (by show _=48;omega))
        cases hbg:oHl n
        · have h65:¬(65:Int)≤(s[0].toNat:Int):=by
            rw [hgt]
            have:¬65≤(DA.getD (n / 16 ^ (oAf n - 1)) 0).toNat:=of_decide_eq_false (g.trans hbg)
            omega
          clear hgt z g hsx h5 h6 h7 h8 hje hst hW
          go_wp2
          go_ret
          exact ⟨oAs (by rw [nzH,hbg,if_neg (by decide)];exact oAd (by rw [oAb,HW.out])),rfl⟩
        · have h65:(65:Int)≤(s[0].toNat:Int):=by
            rw [hgt]
            have:65≤(DA.getD (n / 16 ^ (oAf n - 1)) 0).toNat:=of_decide_eq_true (g.trans hbg)
            omega
          clear hgt z g hsx h5 h6 h7 h8 hje hst hW
          go_wp2
          go_ret
          exact ⟨oAs (by rw [nzH,hbg,if_pos rfl];exact oAd (by rw [oAb,oAb,HW.out];rfl)),rfl⟩
theorem oAp (n:Int) (w:World) (hT:Deb w):Calls Tryz.prog 116 #[.int .i64 n] w fun e w'=>e=.returned (.string ⟨(oAc n).toArray⟩)∧RowKit.Below w.heap.size w w':=by
  have HF:=aA (fun b W h=>sV 0 65535 n b W h)
  have HB0:Hid (RowKit.Below w.heap.size w (w.alloc (.cells #[.int .i64 n] 3))):=(Below.refl _ _).alloc (Nat.le_refl _) _
  have HC0:=aA (Blk.cell (Blk.new w 3 #[.int .i64 n]) 0)
  by_cases hno:n < 0∨65535 < n
  · rw [oDo hno]
    rw [show bG 0 65535 n=false by unfold bG;rw [Bool.and_eq_false_iff,decide_eq_false_iff_not,decide_eq_false_iff_not];omega] at HF
    clear hno hT
    go_enter Tryz.func116,Tryz.ntmps116
    go_wp2_with (go_at_call 59;refine (HF.out _ _ HC0.out).mono ?_;rintro e w1 ⟨rfl,rfl⟩)
    go_ret
    exact ⟨rfl,HB0.out⟩
  obtain ⟨n,rfl⟩:=Int.eq_ofNat_of_zero_le (a:=n) (by omega)
  have hn:n < 65536:=by omega
  rw [show bG 0 65535 (n:Int)=true by unfold bG;rw [Bool.and_eq_true,decide_eq_true_iff,decide_eq_true_iff];omega] at HF
  clear hno
  by_cases h10:n < 10
  · rw [oBd h10]
    have HX:=aA (fun W=>oEb n h10 W)
    have h10':(n:Int)≤9:=by omega
    clear h10 hn hT
    go_enter Tryz.func116,Tryz.ntmps116
    go_wp2_with (first
      | (go_at_call 59;refine (HF.out _ _ HC0.out).mono ?_;rintro e w1 ⟨rfl,rfl⟩)
      | (go_at_call 163;refine (HX.out _).mono ?_;rintro e w1 ⟨rfl,rfl⟩))
    go_ret
    exact ⟨rfl,HB0.out⟩
  · rw [oBz (by omega) (by omega)]
    have h10':¬(n:Int)≤9:=by omega
    have HX:=aA (fun W (hb:RowKit.Below w.heap.size w W)=>oCy n hn W (hT.below hb))
    have HU:=aA (fun W=>wK ⟨(oAu n (oAf n)).toArray⟩ W (by
      show (oAu n (oAf n)).toArray.size≤_
      rw [List.size_toArray,oCb]
      have:=(oAi n).2
      omega))
    have hup:dG ⟨(oAu n (oAf n)).toArray⟩=⟨(oCo n).toArray⟩:=by
      unfold dG oCo
      rw [←oDp]
    rw [hup] at HU
    obtain ⟨t,h5,h6,h7⟩:=oBm hn
    have g:=(oCw ⟨_,h6⟩).1
    dsimp only at g
    obtain ⟨L,hL⟩:∃L:ByteArray,L=⟨(oAu n (oAf n)).toArray⟩:=⟨_,rfl⟩
    obtain ⟨S,hS⟩:∃S:ByteArray,S=⟨(oCo n).toArray⟩:=⟨_,rfl⟩
    have hSl:S.data.toList=oCo n:=by rw [hS]
    have hSH:(S++⟨#[72]⟩:ByteArray).data.toList=DA.getD (n / 16 ^ (oAf n - 1)) 0::(t++[72]):=by rw [oAb,hSl,h5];rfl
    have h00:0 < (S++⟨#[72]⟩:ByteArray).size:=by
      have:=congrArg List.length hSH
      have e:(S++⟨#[72]⟩:ByteArray).size=(S++⟨#[72]⟩:ByteArray).data.toList.length:=by simp;rfl
      rw [e,this]
      simp
    have hgt:=oDq hSH h00
    rw [←hL] at HX HU
    rw [←hS] at HU
    have HSL:=aA hSl
    have hss:S.size≤10:=by
      have:=congrArg List.length hSl
      have h4:=oCh n
      simp at this
      omega
    cases hbg:oHl n
    · have h57:¬(57:Int) < ((S++⟨#[72]⟩:ByteArray)[0].toNat:Int):=by
        rw [hgt]
        have:¬57 < (DA.getD (n / 16 ^ (oAf n - 1)) 0).toNat:=of_decide_eq_false (g.trans hbg)
        omega
      clear hgt g h5 h6 h7 hS hL hSl hSH hup hT hn h10
      go_enter Tryz.func116,Tryz.ntmps116
      go_wp2_with (first
        | (go_at_call 59;refine (HF.out _ _ HC0.out).mono ?_;rintro e w1 ⟨rfl,rfl⟩)
        | (go_at_call 164;refine (HX.out _ HB0.out).mono ?_;rintro e w2 ⟨rfl,hb⟩;have HB2:=aA (HB0.out.trans (hb.mono HB0.out.size));clear hb)
        | (go_at_call 57;refine (HU.out _).mono ?_;rintro e w3 ⟨rfl,hb⟩;have HB3:=aA (HB2.out.trans (hb.mono HB2.out.size));clear hb))
      go_ret
      exact ⟨oAs (by rw [nzH,hbg,if_neg (by decide)];exact oAd (by rw [oAb,HSL.out])),HB3.out⟩
    · have h57:(57:Int) < ((S++⟨#[72]⟩:ByteArray)[0].toNat:Int):=by
        rw [hgt]
        have:57 < (DA.getD (n / 16 ^ (oAf n - 1)) 0).toNat:=of_decide_eq_true (g.trans hbg)
        omega
      clear hgt g h5 h6 h7 hS hL hSl hSH hup hT hn h10
      go_enter Tryz.func116,Tryz.ntmps116
      go_wp2_with (first
        | (go_at_call 59;refine (HF.out _ _ HC0.out).mono ?_;rintro e w1 ⟨rfl,rfl⟩)
        | (go_at_call 164;refine (HX.out _ HB0.out).mono ?_;rintro e w2 ⟨rfl,hb⟩;have HB2:=aA (HB0.out.trans (hb.mono HB0.out.size));clear hb)
        | (go_at_call 57;refine (HU.out _).mono ?_;rintro e w3 ⟨rfl,hb⟩;have HB3:=aA (HB2.out.trans (hb.mono HB2.out.size));clear hb))
      go_ret
      exact ⟨oAs (by rw [nzH,hbg,if_pos rfl];exact oAd (by rw [oAb,oAb,HSL.out];rfl)),HB3.out⟩
def oBa (x:Ins):List UInt8:=if tI x=true then oEr x.op.data.toList (aE x).args else []
def oCk (x:It):List UInt8:=if x.k=1∧x.al=false then oBa ⟨⟨x.op.toArray⟩,x.args⟩ else oAq x.raw
def oEf (b:List UInt8):List UInt8:=Lib.join (b.map fun c=>qG c.toNat 2) [32]
def oEm (n:Nat):Nat:=if n+2≤12 then 12 - n else 2
def oDg (a:Int) (x:It):List UInt8:=
  if a < 0∨65535 < a then [] else qG a.toNat 4++[32,32]++oEf x.raw++List.replicate (oEm (oEf x.raw).length) 32++oCk x++(if x.al=true then [32,32,59,32]++oBa ⟨⟨x.op.toArray⟩,x.args⟩ else [])
def oGf:Int→List It→List UInt8
  | _,[]=>[]
  | a,x::r=>if a < 0∨65535 < a then [] else oDg a x++[10]++oGf (a+x.raw.length) r
theorem oBq {x:Ins} (h:bH x=0):∀y∈x.args,aC y=true:=by
  unfold bH at h
  split at h
  · cases h
  · split at h
    · cases h
    · split at h
      · rename_i h2
        exact fun y hy=>List.all_eq_true.1 h2 y hy
      · cases h
def oJe (p:Int) (x:Nat):Bool:=match (atF p x).1 with
  | some e=>decide (e.iop≠[])&&e.iop.all gdC
  | none=>true
theorem cki:∀p:Fin 7,∀x:Fin 256,oJe p.val x.val=true:=by decide+kernel
theorem oFf {x:Ins} (h:tI x=true):∃e,cQ x=(some e,0):=by
  have h0:(cQ x).2=0:=eq_of_beq h
  have h1:=findR_code.1 h0
  cases hR:cQ x with
  | mk o k=>
    rw [hR] at h0 h1
    cases o with
    | none=>cases h1
    | some e=>exact ⟨e,by dsimp only at h0;rw [h0]⟩
theorem oAz {x:Ins} (h:tI x=true):(∀o∈(aE x).args,aC o=true)∧gdL x.op.data.toList:=by
  obtain ⟨e,hR⟩:=oFf h
  obtain ⟨p,k,F⟩:=fnd11 hR
  have hv9:∀y∈(aE x).args,aC y=true:=oBq (x:=⟨⟨e.iop.toArray⟩,(aE x).args⟩) (F.fil.check F.ok)
  refine ⟨hv9,?_⟩
  have hc:=cki ⟨p,F.hp⟩ ⟨k,F.hk⟩
  unfold oJe at hc
  dsimp only at hc
  rw [F.at'] at hc
  dsimp only at hc
  obtain ⟨h1,h2⟩:=Bool.and_eq_true_iff.1 hc
  rw [F.iop]
  exact ⟨of_decide_eq_true h1,h2⟩
theorem oAr {x:Ins} (h:tI x=true):oBa x=oEr x.op.data.toList (aE x).args:=if_pos h
theorem oBu {x:Ins} (h:tI x=false):oBa x=[]:=if_neg (by rw [h];decide)
theorem oEa {x:Ins} (h:tI x=true):Lib.trimSuffix (x.op.data.toList++[32]++oBp (aE x).args) [32]=oBa x:=by
  rw [oAr h]
  exact oEc _ _ (oAz h).1
def lnL (l:List UInt8):Prop:=∀c∈l,32≤c.toNat
theorem oGa {c:UInt8} (h:gdC c=true):32≤c.toNat:=by
  unfold gdC at h
  have:=of_decide_eq_true (Bool.and_eq_true_iff.1 h).1
  omega
theorem gdL.ln {l:List UInt8} (h:gdL l):lnL l:=fun c hc=>oGa (List.all_eq_true.1 h.2 c hc)
theorem lnL.app {a b:List UInt8} (h:lnL a) (g:lnL b):lnL (a++b):=fun c hc=>(List.mem_append.1 hc).elim (h c) (g c)
theorem oBx {s:List UInt8} (hs:lnL s):∀{l:List (List UInt8)},(∀y∈l,lnL y)→lnL (Lib.join l s)
  | [],_=>fun c hc=>by cases hc
  | x::r,h=>by
    rw [Lib.join_cons]
    refine (h x List.mem_cons_self).app fun c hc=>?_
    unfold Lib.joinTail at hc
    obtain ⟨y,hy,hc⟩:=List.mem_flatten.1 hc
    obtain ⟨z,hz,rfl⟩:=List.mem_map.1 hy
    exact hs.app (h z (List.mem_cons_of_mem _ hz)) c hc
theorem oCa {c:UInt8} (h:32≤c.toNat):lnL [c]:=fun d hd=>by rw [List.mem_singleton.1 hd];exact h
theorem oBy (x:Ins):lnL (oBa x):=by
  cases h:tI x
  · rw [oBu h];intro c hc;cases hc
  · rw [oAr h]
    obtain ⟨h1,h2⟩:=oAz h
    unfold oEr
    split
    · exact h2.ln
    · refine h2.ln.app ((oCa (by decide)).app (oBx (oCa (by decide)) fun y hy=>?_))
      obtain ⟨o,ho,rfl⟩:=List.mem_map.1 hy
      exact (oEq (h1 o ho)).ln
theorem oBi (c:UInt8):gdL (oAc (c.toNat:Int)):=oAw (by omega) (by have:=c.toNat_lt;omega)
theorem oFg (b:List UInt8):lnL (oAq b):=by
  unfold oAq
  split
  · intro c hc;cases hc
  · refine lnL.app (fun c hc=>?_) (oBx (oCa (by decide)) fun y hy=>?_)
    · simp at hc
      rcases hc with rfl | rfl | rfl | rfl | rfl<;>decide
    · obtain ⟨o,_,rfl⟩:=List.mem_map.1 hy
      exact (oBi o).ln
theorem oEw (x:It):lnL (oCk x):=by
  unfold oCk
  split
  · exact oBy _
  · exact oFg _
theorem oDi (n k:Nat):lnL (qG n k):=fun c hc=>oGa (List.all_eq_true.1 (oAx k n) c hc)
theorem oEx (b:List UInt8):lnL (oEf b):=oBx (oCa (by decide)) fun y hy=>by
  obtain ⟨o,_,rfl⟩:=List.mem_map.1 hy
  exact oDi _ _
theorem oEy (a:Int) (x:It):lnL (oDg a x):=by
  unfold oDg
  split
  · intro c hc;cases hc
  · refine (((((oDi _ _).app fun c hc=>?_).app (oEx _)).app fun c hc=>?_).app (oEw x)).app ?_
    · simp at hc;subst hc;decide
    · rw [(List.mem_replicate.1 hc).2];decide
    · split
      · refine lnL.app (fun c hc=>?_) (oBy _)
        have h:∀d∈([32,32,59,32]:List UInt8),32≤d.toNat:=by decide
        exact h c hc
      · intro c hc;cases hc
theorem oFa {l:List UInt8} (h:lnL l):l.count 10=0:=List.count_eq_zero.2 fun hc=>absurd (h 10 hc) (by decide)
theorem oCs:∀(l:List It) (a:Int),(oGf a l).count 10≤l.length
  | [],_=>Nat.le_refl _
  | x::r,a=>by
    unfold oGf
    split
    · simp
    · rw [List.count_append,List.count_append,oFa (oEy a x)]
      have:=oCs r (a+x.raw.length)
      simp
      omega
theorem oGn {a:Int} {x:It}:oDg a x=[]↔a < 0∨65535 < a:=by
  unfold oDg
  constructor
  · intro h
    rcases Decidable.em (a < 0∨65535 < a) with g | g
    · exact g
    · rw [if_neg g] at h
      have:=congrArg List.length h
      simp [oAk] at this
  · intro h;rw [if_pos h]
theorem oFz {l:List UInt8} (h:l.all gdC=true):l.count 44=0:=List.count_eq_zero.2 fun hc=>absurd (List.all_eq_true.1 h 44 hc) (by decide)
theorem oDk:∀(b:List UInt8),(Lib.joinTail [44] (b.map fun (c:UInt8)=>oAc (c.toNat:Int))).count 44=b.length
  | []=>rfl
  | c::r=>by
    rw [List.map_cons]
    show ((([44]:List UInt8)++oAc (c.toNat:Int))++Lib.joinTail [44] (r.map fun (c:UInt8)=>oAc (c.toNat:Int))).count 44=_
    rw [List.count_append,List.count_append,oDk r,oFz (oBi c).2]
    simp
    omega
theorem oFe (b:List UInt8):(oAq b).count 44=b.length - 1:=by
  cases b with
  | nil=>rfl
  | cons c r=>
    unfold oAq
    rw [if_neg (List.cons_ne_nil _ _),List.map_cons,Lib.join_cons,List.count_append,List.count_append,oDk r,oFz (oBi c).2]
    simp
theorem oHu {b:List UInt8} (h:b≠[]):oAq b≠[]:=by unfold oAq;rw [if_neg h];simp
theorem oJb {x:Ins} (h:tI x=true):oBa x≠[]:=by
  rw [oAr h]
  have:=(oAz h).2.1
  unfold oEr
  split
  · exact this
  · simp [this]
end Go.Proofs.YtpigbggoiipmhaaGreatDoor
namespace Go.Proofs.YtpigbggoiipmhaaGreatDoor
set_option maxHeartbeats 2000000
set_option maxRecDepth 100000
open Go.RowKit Go.Shelf Go.Sort
theorem oAj (n:Int):(oAg n).length≤7:=by
  unfold oAg
  have h1:=oAa (-n)
  have h2:=oAa n
  split<;>simp<;>omega
theorem oAn {l:List UInt8} {k:Nat} (h:l.length≤k):(⟨l.toArray⟩:ByteArray).size≤k:=by show l.toArray.size≤k;rw [List.size_toArray];exact h
theorem oBs (n:Int) (h0:-65535≤n) (h1:n≤65535) (w:World) (hT:Deb w):Calls Tryz.prog 244 #[.int .i64 n] w fun e w'=>e=.returned (.string ⟨(oAg n).toArray⟩)∧RowKit.Below w.heap.size w w':=by
  by_cases hn:n < 0
  · have HX:=aA (oAp (-n) w hT)
    have hs:=oAn (Nat.le_trans (oAa (-n)) (by decide:6≤100))
    have HE:Hid ((⟨#[45]⟩++⟨(oAc (-n)).toArray⟩:ByteArray)=⟨(oAg n).toArray⟩):=aA (oAd (by rw [oAb];unfold oAg;rw [if_pos hn];rfl))
    generalize (⟨(oAc (-n)).toArray⟩:ByteArray)=S at *
    clear hT
    go_enter Tryz.func244,Tryz.ntmps244
    go_wp2_with (go_at_call 116;refine HX.out.mono ?_;rintro e w1 ⟨rfl,hb⟩;have HB:=aA hb;clear hb)
    go_ret
    exact ⟨oAs HE.out,HB.out⟩
  · have HX:=aA (oAp n w hT)
    have hs:=oAn (Nat.le_trans (oAa n) (by decide:6≤100))
    have HE:Hid ((⟨#[43]⟩++⟨(oAc n).toArray⟩:ByteArray)=⟨(oAg n).toArray⟩):=aA (oAd (by rw [oAb];unfold oAg;rw [if_neg hn];rfl))
    generalize (⟨(oAc n).toArray⟩:ByteArray)=S at *
    clear hT
    go_enter Tryz.func244,Tryz.ntmps244
    go_wp2_with (go_at_call 116;refine HX.out.mono ?_;rintro e w1 ⟨rfl,hb⟩;have HB:=aA hb;clear hb)
    go_ret
    exact ⟨oAs HE.out,HB.out⟩
theorem oAy (n:Int) (h0:-65535≤n) (h1:n≤65535) (w:World):Calls Tryz.prog 181 #[.int .i64 n] w fun e w'=>e=.returned (.string ⟨(oAg n).toArray⟩)∧w'=w:=by
  by_cases hn:n < 0
  · have HX:=aA (oAh (-n) w)
    have hs:=oAn (Nat.le_trans (oAa (-n)) (by decide:6≤100))
    have HE:Hid ((⟨#[45]⟩++⟨(oAc (-n)).toArray⟩:ByteArray)=⟨(oAg n).toArray⟩):=aA (oAd (by rw [oAb];unfold oAg;rw [if_pos hn];rfl))
    generalize (⟨(oAc (-n)).toArray⟩:ByteArray)=S at *
    go_enter Tryz.func181,Tryz.ntmps181
    go_wp2_with (go_at_call 81;refine HX.out.mono ?_;rintro e w1 ⟨rfl,rfl⟩)
    go_ret
    exact ⟨oAs HE.out,rfl⟩
  · have HX:=aA (oAh n w)
    have hs:=oAn (Nat.le_trans (oAa n) (by decide:6≤100))
    have HE:Hid ((⟨#[43]⟩++⟨(oAc n).toArray⟩:ByteArray)=⟨(oAg n).toArray⟩):=aA (oAd (by rw [oAb];unfold oAg;rw [if_neg hn];rfl))
    generalize (⟨(oAc n).toArray⟩:ByteArray)=S at *
    go_enter Tryz.func181,Tryz.ntmps181
    go_wp2_with (go_at_call 81;refine HX.out.mono ?_;rintro e w1 ⟨rfl,rfl⟩)
    go_ret
    exact ⟨oAs HE.out,rfl⟩
theorem form5 (s:ByteArray) (hs:s.size≤10) (n:Int) (h0:-65535≤n) (h1:n≤65535) (w:World) (hT:Deb w):Calls Tryz.prog 243 #[.string s,.int .i64 n] w fun e w'=>e=.returned (.string ⟨(40::(s.data.toList++(oAg n++[41]))).toArray⟩)∧RowKit.Below w.heap.size w w':=by
  have HX:=aA (oBs n h0 h1 w hT)
  have h2:=oAn (oAj n)
  have HE:Hid ((⟨#[40]⟩++s++⟨(oAg n).toArray⟩++⟨#[41]⟩:ByteArray)=⟨(40::(s.data.toList++(oAg n++[41]))).toArray⟩):=aA (oAd (by simp))
  generalize (40::(s.data.toList++(oAg n++[41])))=R at *
  generalize (⟨(oAg n).toArray⟩:ByteArray)=S at *
  clear hT
  go_enter Tryz.func243,Tryz.ntmps243
  go_wp2_with (go_at_call 244;refine HX.out.mono ?_;rintro e w1 ⟨rfl,hb⟩;have HB:=aA hb;clear hb)
  go_ret
  exact ⟨oAs HE.out,HB.out⟩
theorem form6 (s:ByteArray) (n:Int) (h0:-65535≤n) (h1:n≤65535) (w:World) (hT:Deb w):Calls Tryz.prog 245 #[.string s,.int .i64 n] w fun e w'=>e=.returned (.string ⟨(if n < 0 then oAg n else oAc n).toArray⟩)∧RowKit.Below w.heap.size w w':=by
  have HX:=aA (oBs n h0 h1 w hT)
  have HY:=aA (oAp n w hT)
  clear hT
  by_cases hn:n < 0
  · rw [if_pos hn]
    go_enter Tryz.func245,Tryz.ntmps245
    go_wp2_with (go_at_call 244;refine HX.out.mono ?_;rintro e w1 ⟨rfl,hb⟩;have HB:=aA hb;clear hb)
    go_ret
    exact ⟨rfl,HB.out⟩
  · rw [if_neg hn]
    go_enter Tryz.func245,Tryz.ntmps245
    go_wp2_with (go_at_call 116;refine HY.out.mono ?_;rintro e w1 ⟨rfl,hb⟩;have HB:=aA hb;clear hb)
    go_ret
    exact ⟨rfl,HB.out⟩
theorem form7 (s:ByteArray) (n:Int) (w:World) (hT:Deb w):Calls Tryz.prog 246 #[.string s,.int .i64 n] w fun e w'=>e=.returned (.string ⟨(40::(oAc n++[41])).toArray⟩)∧RowKit.Below w.heap.size w w':=by
  have HX:=aA (oAp n w hT)
  have h2:=oAn (oAa n)
  have HE:Hid ((⟨#[40]⟩++⟨(oAc n).toArray⟩++⟨#[41]⟩:ByteArray)=⟨(40::(oAc n++[41])).toArray⟩):=aA (oAd (by simp))
  generalize (40::(oAc n++[41]))=R at *
  generalize (⟨(oAc n).toArray⟩:ByteArray)=S at *
  clear hT
  go_enter Tryz.func246,Tryz.ntmps246
  go_wp2_with (go_at_call 116;refine HX.out.mono ?_;rintro e w1 ⟨rfl,hb⟩;have HB:=aA hb;clear hb)
  go_ret
  exact ⟨oAs HE.out,HB.out⟩
theorem oFt (s:ByteArray) (n:Int) (h0:-60000≤n) (h1:n≤60000) (w:World) (hT:Deb w):Calls Tryz.prog 247 #[.string s,.int .i64 n] w fun e w'=>e=.returned (.string ⟨(36::oAg (n+2)).toArray⟩)∧RowKit.Below w.heap.size w w':=by
  have HX:=aA (oBs (n+2) (by omega) (by omega) w hT)
  have h2:=oAn (oAj (n+2))
  have HE:Hid ((⟨#[36]⟩++⟨(oAg (n+2)).toArray⟩:ByteArray)=⟨(36::oAg (n+2)).toArray⟩):=aA (oAd (by simp))
  generalize (36::oAg (n+2))=R at *
  generalize (⟨(oAg (n+2)).toArray⟩:ByteArray)=S at *
  clear hT
  go_enter Tryz.func247,Tryz.ntmps247
  go_wp2_with (go_at_call 244;refine HX.out.mono ?_;rintro e w1 ⟨rfl,hb⟩;have HB:=aA hb;clear hb)
  go_ret
  exact ⟨oAs HE.out,HB.out⟩
theorem oDm (a:ByteArray):a.toList=a.data.toList:=by
  obtain ⟨⟨l⟩⟩:=a
  exact dK l
theorem oDn {o:Opd} (h:aC o=false):opT o=[]:=if_neg (by rw [h];decide)
theorem oDh {o:Opd} (h:aC o=true) (hn:mA o=false):(⟨(opT o).toArray⟩:ByteArray)=aQ o.kind o.reg:=by
  unfold mA at hn
  simp only [Bool.or_eq_false_iff,beq_eq_false_iff_ne] at hn
  obtain ⟨⟨⟨h5,h6⟩,h7⟩,h10⟩:=hn
  unfold opT
  rw [if_pos h,if_neg h5,if_neg h6,if_neg h7,if_neg h10]
  exact (oAd (oDm _).symm).symm
theorem oBo {o:Opd} (h:aC o=true) (hn:mA o=true):(o.kind=5∧(o.reg=5∨o.reg=6)∧-128≤o.n∧o.n≤127)∨(o.kind=6∧o.reg=0∧-32768≤o.n∧o.n≤65535)∨(o.kind=7∧o.reg=0∧0≤o.n∧o.n≤65535)∨(o.kind=10∧o.reg=0∧-128≤o.n∧o.n≤127):=by
  unfold mA at hn
  unfold aC at h
  obtain ⟨k,r,n⟩:=o
  dsimp only at *
  simp only [Bool.or_eq_true,beq_iff_eq] at hn
  rcases hn with ((rfl | rfl) | rfl) | rfl
  · left
    rw [if_neg (by decide),if_pos (by decide)] at h
    simp only [Bool.and_eq_true,decide_eq_true_eq,Bool.not_eq_true'] at h
    refine ⟨rfl,?_,h.1.2,h.2⟩
    obtain ⟨h0,h9⟩:=fY h.1.1
    have hr:r=0∨r=1∨r=2∨r=3∨r=4∨r=5∨r=6∨r=7∨r=8:=by omega
    have h:=h.1.1
    rcases hr with rfl | rfl | rfl | rfl | rfl | rfl | rfl | rfl | rfl
    all_goals first | exact .inl rfl | exact .inr rfl | exact absurd h (by decide+kernel)
  · right;left
    rw [if_neg (by decide),if_neg (by decide),if_pos (by decide)] at h
    simp only [Bool.and_eq_true,decide_eq_true_eq,beq_iff_eq] at h
    exact ⟨rfl,h.1.1,h.1.2,h.2⟩
  · right;right;left
    rw [if_neg (by decide),if_neg (by decide),if_neg (by decide),if_pos (by decide)] at h
    simp only [Bool.and_eq_true,decide_eq_true_eq,beq_iff_eq] at h
    exact ⟨rfl,h.1.1,h.1.2,h.2⟩
  · right;right;right
    rw [if_neg (by decide),if_neg (by decide),if_neg (by decide),if_neg (by decide),if_pos (by decide)] at h
    simp only [Bool.and_eq_true,decide_eq_true_eq,beq_iff_eq] at h
    exact ⟨rfl,h.1.1,h.1.2,h.2⟩
theorem oFn {r n:Int} (h:aC ⟨5,r,n⟩=true) (_:r=5∨r=6):opT ⟨5,r,n⟩=40::((aQ 5 r).data.toList++(oAg n++[41])):=by
  unfold opT
  rw [if_pos h,if_pos rfl,oDm]
theorem oFw {r n:Int} (h:aC ⟨6,r,n⟩=true):opT ⟨6,r,n⟩=if n < 0 then oAg n else oAc n:=by
  unfold opT
  rw [if_pos h,if_neg (by dsimp only;decide),if_pos rfl]
theorem oFm {r n:Int} (h:aC ⟨7,r,n⟩=true):opT ⟨7,r,n⟩=40::(oAc n++[41]):=by
  unfold opT
  rw [if_pos h,if_neg (by dsimp only;decide),if_neg (by dsimp only;decide),if_pos rfl]
theorem oEp {r n:Int} (h:aC ⟨10,r,n⟩=true):opT ⟨10,r,n⟩=36::oAg (n+2):=by
  unfold opT
  rw [if_pos h,if_neg (by dsimp only;decide),if_neg (by dsimp only;decide),if_neg (by dsimp only;decide),if_pos rfl]
theorem oBr (k:Int):((dM k).all fun s=>decide (s.toList.length≤10))=true:=by
  unfold dM
  split
  · decide+kernel
  · split
    · decide+kernel
    · split
      · decide+kernel
      · split
        · decide+kernel
        · split
          · decide+kernel
          · split
            · decide+kernel
            · split
              · decide+kernel
              · rfl
theorem oDj (o:Opd):(opT o).length≤100:=by
  unfold opT
  have h1:=oAj o.n
  have h2:=oAa o.n
  have h3:=oAj (o.n+2)
  have h4:∀k r:Int,(aQ k r).toList.length≤10:=fun k r=>by
    have:=oBr k
    unfold aQ dZ
    split
    · rw [oBf];decide
    · cases h:(dM k)[r.toNat]? with
      | none=>rw [Option.getD_none,oBf];decide
      | some s=>exact of_decide_eq_true (List.all_eq_true.1 this s (List.mem_of_getElem? h))
  have h5:=h4 5 o.reg
  have h6:=h4 o.kind o.reg
  (repeat' split)<;>simp<;>omega
theorem oCn (o:Opd) (h:aC o=true) (hn:mA o=true) (w:World) (hT:Deb w):Calls Tryz.prog 105 #[.agg #[.int .i64 o.kind,.int .i64 o.reg,.int .i64 o.n]] w fun e w'=>e=.returned (.string ⟨(opT o).toArray⟩)∧RowKit.Below w.heap.size w w':=by
  have hok:aZ o=true:=by rw [iL];exact h
  have HB0:Hid (RowKit.Below w.heap.size w (w.alloc (.cells #[.int .i64 o.kind,.int .i64 o.reg,.int .i64 o.n] 52))):=(Below.refl _ _).alloc (Nat.le_refl _) _
  have HK:Hid (Blk (w.alloc (.cells #[.int .i64 o.kind,.int .i64 o.reg,.int .i64 o.n] 52)) w.heap.size 52 #[.int .i64 o.kind,.int .i64 o.reg,.int .i64 o.n]):=Blk.new w _ _
  have HO:=aA (GA o hok (w.alloc (.cells #[.int .i64 o.kind,.int .i64 o.reg,.int .i64 o.n] 52)))
  simp only [fP.val] at HO
  obtain ⟨k,r,n⟩:=o
  dsimp only at *
  have HC:=oBo h hn
  dsimp only at HC
  have HT:=aA (fun W (hb:RowKit.Below w.heap.size w W)=>hT.below hb)
  clear hT hn
  rcases HC with ⟨rfl,hr,h0,h1⟩ | ⟨rfl,rfl,h0,h1⟩ | ⟨rfl,rfl,h0,h1⟩ | ⟨rfl,rfl,h0,h1⟩
  · rw [oFn h hr]
    rw [show (aG 5).form=243 from rfl] at HO
    have hnm:(aG 5).nm r.toNat=aQ 5 r:=by rcases hr with rfl | rfl<;>rfl
    have hsz:(aQ 5 r).size≤10:=by rcases hr with rfl | rfl<;>decide
    rw [hnm] at HO
    have HF:=aA (fun W hT=>form5 (aQ 5 r) hsz n (by omega) (by omega) W hT)
    generalize aQ 5 r=s at *
    clear hr hok h hnm hsz
    go_enter Tryz.func105,Tryz.ntmps105
    go_wp2_with (first | (go_at_call 151;refine HO.out.mono ?_;rintro e w1 ⟨rfl,hb⟩;have HB:=aA (HB0.out.trans (hb.mono HB0.out.size));have c2:w1.cell? ⟨w.heap.size,2,none⟩=some (.int .i64 n):=(hb.cell (p:=⟨w.heap.size,2,none⟩) HK.out.lt).trans (HK.out.cell 2);have hlt:w.heap.size < w1.heap.size:=Nat.lt_of_lt_of_le HK.out.lt hb.size;clear hb)
                       | (go_at_call 243;refine (HF.out _ (HT.out _ (HB.out.alloc HB.out.size _))).mono ?_;rintro e w2 ⟨rfl,hb⟩;have HB2:=aA ((HB.out.alloc HB.out.size _).trans (hb.mono (HB.out.alloc HB.out.size _).size));clear hb))
    go_ret
    exact ⟨rfl,HB2.out⟩
  · rw [oFw h]
    rw [show (aG 6).form=245 from rfl] at HO
    have HF:=aA (fun s W hT=>form6 s n (by omega) (by omega) W hT)
    generalize (if n < 0 then oAg n else oAc n)=R at *
    clear hok h
    go_enter Tryz.func105,Tryz.ntmps105
    go_wp2_with (first | (go_at_call 151;refine HO.out.mono ?_;rintro e w1 ⟨rfl,hb⟩;have HB:=aA (HB0.out.trans (hb.mono HB0.out.size));have c2:w1.cell? ⟨w.heap.size,2,none⟩=some (.int .i64 n):=(hb.cell (p:=⟨w.heap.size,2,none⟩) HK.out.lt).trans (HK.out.cell 2);have hlt:w.heap.size < w1.heap.size:=Nat.lt_of_lt_of_le HK.out.lt hb.size;clear hb)
                       | (go_at_call 245;refine (HF.out _ _ (HT.out _ (HB.out.alloc HB.out.size _))).mono ?_;rintro e w2 ⟨rfl,hb⟩;have HB2:=aA ((HB.out.alloc HB.out.size _).trans (hb.mono (HB.out.alloc HB.out.size _).size));clear hb))
    go_ret
    exact ⟨rfl,HB2.out⟩
  · rw [oFm h]
    rw [show (aG 7).form=246 from rfl] at HO
    have HF:=aA (fun s W hT=>form7 s n W hT)
    generalize (40::(oAc n++[41]))=R at *
    clear hok h
    go_enter Tryz.func105,Tryz.ntmps105
    go_wp2_with (first | (go_at_call 151;refine HO.out.mono ?_;rintro e w1 ⟨rfl,hb⟩;have HB:=aA (HB0.out.trans (hb.mono HB0.out.size));have c2:w1.cell? ⟨w.heap.size,2,none⟩=some (.int .i64 n):=(hb.cell (p:=⟨w.heap.size,2,none⟩) HK.out.lt).trans (HK.out.cell 2);have hlt:w.heap.size < w1.heap.size:=Nat.lt_of_lt_of_le HK.out.lt hb.size;clear hb)
                       | (go_at_call 246;refine (HF.out _ _ (HT.out _ (HB.out.alloc HB.out.size _))).mono ?_;rintro e w2 ⟨rfl,hb⟩;have HB2:=aA ((HB.out.alloc HB.out.size _).trans (hb.mono (HB.out.alloc HB.out.size _).size));clear hb))
    go_ret
    exact ⟨rfl,HB2.out⟩
  · rw [oEp h]
    rw [show (aG 10).form=247 from rfl] at HO
    have HF:=aA (fun s W hT=>oFt s n (by omega) (by omega) W hT)
    generalize (36::oAg (n+2))=R at *
    clear hok h
    go_enter Tryz.func105,Tryz.ntmps105
    go_wp2_with (first | (go_at_call 151;refine HO.out.mono ?_;rintro e w1 ⟨rfl,hb⟩;have HB:=aA (HB0.out.trans (hb.mono HB0.out.size));have c2:w1.cell? ⟨w.heap.size,2,none⟩=some (.int .i64 n):=(hb.cell (p:=⟨w.heap.size,2,none⟩) HK.out.lt).trans (HK.out.cell 2);have hlt:w.heap.size < w1.heap.size:=Nat.lt_of_lt_of_le HK.out.lt hb.size;clear hb)
                       | (go_at_call 247;refine (HF.out _ _ (HT.out _ (HB.out.alloc HB.out.size _))).mono ?_;rintro e w2 ⟨rfl,hb⟩;have HB2:=aA ((HB.out.alloc HB.out.size _).trans (hb.mono (HB.out.alloc HB.out.size _).size));clear hb))
    go_ret
    exact ⟨rfl,HB2.out⟩
theorem oCl (o:Opd) (w:World) (hT:Deb w):Calls Tryz.prog 105 #[.agg #[.int .i64 o.kind,.int .i64 o.reg,.int .i64 o.n]] w fun e w'=>e=.returned (.string ⟨(opT o).toArray⟩)∧RowKit.Below w.heap.size w w':=by
  cases h:aC o
  · rw [oDn h]
    exact zR o (by rw [iL];exact h) w
  · cases hn:mA o
    · rw [oDh h hn]
      have h2:=mark_eq o h
      unfold fM eP at h2
      rw [hn,if_neg (by decide)] at h2
      have hn2:=hn
      simp only [mA,Bool.or_eq_false_iff] at hn2
      rw [hn2.1.1.1,hn2.1.1.2,hn2.1.2,hn2.2] at h2
      have h3:zB o=aQ o.kind o.reg:=h2.trans (by show bY o=_;unfold bY;rw [if_pos h])
      rw [←h3]
      exact text_any o hn w
    · exact oCn o h hn w hT
end Go.Proofs.YtpigbggoiipmhaaGreatDoor
