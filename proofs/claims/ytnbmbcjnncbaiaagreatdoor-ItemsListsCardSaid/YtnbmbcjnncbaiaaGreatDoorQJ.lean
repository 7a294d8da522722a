/-
  The reference's instructions with the prefix ED, whole. Conditions: the opcode is a byte.
-/
import Derived.Test.YtnbmbcjnncbaiaaGreatDoorPJ
import Derived.Test.YtnbmbcjnncbaiaaGreatDoorSY
namespace Go.Proofs.YtnbmbcjnncbaiaaGreatDoor
open Go.RowKit Go.Shelf Go.Sort
def edG (x y z:Int):ByteArray × List Opd × ByteArray × Bool:=
 (if x=2 then (if z < 4 then (if y < 4 then (⟨#[]⟩,[],⟨#[]⟩,false) else (if y=4 then (if z=0 then (⟨#[76,68,73]⟩,[],⟨#[]⟩,false) else (if z=1 then (⟨#[67,80,73]⟩,[],⟨#[]⟩,false) else (if z=2 then (⟨#[73,78,73]⟩,[],⟨#[]⟩,false) else (⟨#[79,85,84,73]⟩,[],⟨#[]⟩,false)))) else (if y=5 then (if z=0 then (⟨#[76,68,68]⟩,[],⟨#[]⟩,false) else (if z=1 then (⟨#[67,80,68]⟩,[],⟨#[]⟩,false) else (if z=2 then (⟨#[73,78,68]⟩,[],⟨#[]⟩,false) else (⟨#[79,85,84,68]⟩,[],⟨#[]⟩,false)))) else (if y=6 then (if z=0 then (⟨#[76,68,73,82]⟩,[],⟨#[]⟩,false) else (if z=1 then (⟨#[67,80,73,82]⟩,[],⟨#[]⟩,false) else (if z=2 then (⟨#[73,78,73,82]⟩,[],⟨#[]⟩,false) else (⟨#[79,84,73,82]⟩,[],⟨#[]⟩,false)))) else (if z=0 then (⟨#[76,68,68,82]⟩,[],⟨#[]⟩,false) else (if z=1 then (⟨#[67,80,68,82]⟩,[],⟨#[]⟩,false) else (if z=2 then (⟨#[73,78,68,82]⟩,[],⟨#[]⟩,false) else (⟨#[79,84,68,82]⟩,[],⟨#[]⟩,false)))))))) else (⟨#[]⟩,[],⟨#[]⟩,false)) else (if x=1 then (if z=0 then (if y=6 then (⟨#[73,78]⟩,[indO 8],⟨#[]⟩,false) else (⟨#[73,78]⟩,[rF y,indO 8],⟨#[]⟩,false)) else (if z=1 then (if y=6 then (⟨#[79,85,84]⟩,[indO 8,immO 0],⟨#[]⟩,false) else (⟨#[79,85,84]⟩,[indO 8,rF y],⟨#[]⟩,false)) else (if z=2 then (if y % 2=0 then (⟨#[83,66,67]⟩,[rpF 2 3,rpF (y / 2) 3],⟨#[]⟩,false) else (⟨#[65,68,67]⟩,[rpF 2 3,rpF (y / 2) 3],⟨#[]⟩,false)) else (if z=3 then (if y % 2=0 then (if y=4 then (⟨#[76,68]⟩,[memO,rpF 2 3],⟨#[119]⟩,true) else (⟨#[76,68]⟩,[memO,rpF (y / 2) 3],⟨#[119]⟩,false)) else (if y=5 then (⟨#[76,68]⟩,[rpF 2 3,memO],⟨#[119]⟩,true) else (⟨#[76,68]⟩,[rpF (y / 2) 3,memO],⟨#[119]⟩,false))) else (if z=4 then (if y=0 then (⟨#[78,69,71]⟩,[],⟨#[]⟩,false) else (⟨#[78,69,71]⟩,[],⟨#[]⟩,true)) else (if z=5 then (if y=1 then (⟨#[82,69,84,73]⟩,[],⟨#[]⟩,false) else (if y=0 then (⟨#[82,69,84,78]⟩,[],⟨#[]⟩,false) else (⟨#[82,69,84,78]⟩,[],⟨#[]⟩,true))) else (if z=6 then (if y=0 then (⟨#[73,77]⟩,[immO 0],⟨#[]⟩,false) else (if y=1 then (⟨#[73,77]⟩,[immO 0],⟨#[]⟩,true) else (if y=2 then (⟨#[73,77]⟩,[immO 1],⟨#[]⟩,false) else (if y=3 then (⟨#[73,77]⟩,[immO 2],⟨#[]⟩,false) else (if y=4 then (⟨#[73,77]⟩,[immO 0],⟨#[]⟩,true) else (if y=5 then (⟨#[73,77]⟩,[immO 0],⟨#[]⟩,true) else (if y=6 then (⟨#[73,77]⟩,[immO 1],⟨#[]⟩,true) else (⟨#[73,77]⟩,[immO 2],⟨#[]⟩,true)))))))) else (if y=0 then (⟨#[76,68]⟩,[ctlI,accO],⟨#[]⟩,false) else (if y=1 then (⟨#[76,68]⟩,[ctlR,accO],⟨#[]⟩,false) else (if y=2 then (⟨#[76,68]⟩,[accO,ctlI],⟨#[]⟩,false) else (if y=3 then (⟨#[76,68]⟩,[accO,ctlR],⟨#[]⟩,false) else (if y=4 then (⟨#[82,82,68]⟩,[],⟨#[]⟩,false) else (if y=5 then (⟨#[82,76,68]⟩,[],⟨#[]⟩,false) else (if y=6 then (⟨#[]⟩,[],⟨#[]⟩,false) else (⟨#[]⟩,[],⟨#[]⟩,false))))))))))))))) else (⟨#[]⟩,[],⟨#[]⟩,false)))
def edF (op:Int):ByteArray × List Opd × ByteArray × Bool:=edG (op / 64) (op / 8 % 8) (op % 8)
theorem edG_any (op x y z:Int) (h0:0≤op) (h8:op < 256) (hx:op / 64=x) (hy:op / 8 % 8=y) (hz:op % 8=z) (hy0:0≤y) (hy8:y < 8) (hz0:0≤z) (hz8:z < 8) (w:World):
  Calls Tryz.prog 85 #[.int .u8 op] w (InsA w (edG x y z).1 (edG x y z).2.1 (edG x y z).2.2.1 (edG x y z).2.2.2):=by
 by_cases q1:x=2
 ·subst q1
  by_cases q2:z < 4
  ·skip
   by_cases q3:y < 4
   ·skip
    have e:edG 2 y z=(⟨#[]⟩,[],⟨#[]⟩,false):=by unfold edG;rw [if_pos (show ((2:Int)=2) by omega),if_pos (show (z < 4) by omega),if_pos (show (y < 4) by omega)]
    rw [e]
    exact ed_b_2 op y z h0 h8 hy hz (by omega) (by omega) (by omega) (by omega) hx (by omega) (by omega) w
   ·skip
    by_cases q4:y=4
    ·subst q4
     by_cases q5:z=0
     ·subst q5
      have e:edG 2 4 0=(⟨#[76,68,73]⟩,[],⟨#[]⟩,false):=by unfold edG;rw [if_pos (show ((2:Int)=2) by omega),if_pos (show ((0:Int) < 4) by omega),if_neg (show ¬((4:Int) < 4) by omega),if_pos (show ((4:Int)=4) by omega),if_pos (show ((0:Int)=0) by omega)]
      rw [e]
      exact ed_a_4_0 op h0 h8 hx hy hz w
     ·skip
      by_cases q6:z=1
      ·subst q6
       have e:edG 2 4 1=(⟨#[67,80,73]⟩,[],⟨#[]⟩,false):=by unfold edG;rw [if_pos (show ((2:Int)=2) by omega),if_pos (show ((1:Int) < 4) by omega),if_neg (show ¬((4:Int) < 4) by omega),if_pos (show ((4:Int)=4) by omega),if_neg (show ¬((1:Int)=0) by omega),if_pos (show ((1:Int)=1) by omega)]
       rw [e]
       exact ed_a_4_1 op h0 h8 hx hy hz w
      ·skip
       by_cases q7:z=2
       ·subst q7
        have e:edG 2 4 2=(⟨#[73,78,73]⟩,[],⟨#[]⟩,false):=by unfold edG;rw [if_pos (show ((2:Int)=2) by omega),if_pos (show ((2:Int) < 4) by omega),if_neg (show ¬((4:Int) < 4) by omega),if_pos (show ((4:Int)=4) by omega),if_neg (show ¬((2:Int)=0) by omega),if_neg (show ¬((2:Int)=1) by omega),if_pos (show ((2:Int)=2) by omega)]
        rw [e]
        exact ed_a_4_2 op h0 h8 hx hy hz w
       ·skip
        obtain rfl:z=3:=by omega
        have e:edG 2 4 3=(⟨#[79,85,84,73]⟩,[],⟨#[]⟩,false):=by unfold edG;rw [if_pos (show ((2:Int)=2) by omega),if_pos (show ((3:Int) < 4) by omega),if_neg (show ¬((4:Int) < 4) by omega),if_pos (show ((4:Int)=4) by omega),if_neg (show ¬((3:Int)=0) by omega),if_neg (show ¬((3:Int)=1) by omega),if_neg (show ¬((3:Int)=2) by omega)]
        rw [e]
        exact ed_a_4_3 op h0 h8 hx hy hz w
    ·skip
     by_cases q8:y=5
     ·subst q8
      by_cases q9:z=0
      ·subst q9
       have e:edG 2 5 0=(⟨#[76,68,68]⟩,[],⟨#[]⟩,false):=by unfold edG;rw [if_pos (show ((2:Int)=2) by omega),if_pos (show ((0:Int) < 4) by omega),if_neg (show ¬((5:Int) < 4) by omega),if_neg (show ¬((5:Int)=4) by omega),if_pos (show ((5:Int)=5) by omega),if_pos (show ((0:Int)=0) by omega)]
       rw [e]
       exact ed_a_5_0 op h0 h8 hx hy hz w
      ·skip
       by_cases q10:z=1
       ·subst q10
        have e:edG 2 5 1=(⟨#[67,80,68]⟩,[],⟨#[]⟩,false):=by unfold edG;rw [if_pos (show ((2:Int)=2) by omega),if_pos (show ((1:Int) < 4) by omega),if_neg (show ¬((5:Int) < 4) by omega),if_neg (show ¬((5:Int)=4) by omega),if_pos (show ((5:Int)=5) by omega),if_neg (show ¬((1:Int)=0) by omega),if_pos (show ((1:Int)=1) by omega)]
        rw [e]
        exact ed_a_5_1 op h0 h8 hx hy hz w
       ·skip
        by_cases q11:z=2
        ·subst q11
         have e:edG 2 5 2=(⟨#[73,78,68]⟩,[],⟨#[]⟩,false):=by unfold edG;rw [if_pos (show ((2:Int)=2) by omega),if_pos (show ((2:Int) < 4) by omega),if_neg (show ¬((5:Int) < 4) by omega),if_neg (show ¬((5:Int)=4) by omega),if_pos (show ((5:Int)=5) by omega),if_neg (show ¬((2:Int)=0) by omega),if_neg (show ¬((2:Int)=1) by omega),if_pos (show ((2:Int)=2) by omega)]
         rw [e]
         exact ed_a_5_2 op h0 h8 hx hy hz w
        ·skip
         obtain rfl:z=3:=by omega
         have e:edG 2 5 3=(⟨#[79,85,84,68]⟩,[],⟨#[]⟩,false):=by unfold edG;rw [if_pos (show ((2:Int)=2) by omega),if_pos (show ((3:Int) < 4) by omega),if_neg (show ¬((5:Int) < 4) by omega),if_neg (show ¬((5:Int)=4) by omega),if_pos (show ((5:Int)=5) by omega),if_neg (show ¬((3:Int)=0) by omega),if_neg (show ¬((3:Int)=1) by omega),if_neg (show ¬((3:Int)=2) by omega)]
         rw [e]
         exact ed_a_5_3 op h0 h8 hx hy hz w
     ·skip
      by_cases q12:y=6
      ·subst q12
       by_cases q13:z=0
       ·subst q13
        have e:edG 2 6 0=(⟨#[76,68,73,82]⟩,[],⟨#[]⟩,false):=by unfold edG;rw [if_pos (show ((2:Int)=2) by omega),if_pos (show ((0:Int) < 4) by omega),if_neg (show ¬((6:Int) < 4) by omega),if_neg (show ¬((6:Int)=4) by omega),if_neg (show ¬((6:Int)=5) by omega),if_pos (show ((6:Int)=6) by omega),if_pos (show ((0:Int)=0) by omega)]
        rw [e]
        exact ed_a_6_0 op h0 h8 hx hy hz w
       ·skip
        by_cases q14:z=1
        ·subst q14
         have e:edG 2 6 1=(⟨#[67,80,73,82]⟩,[],⟨#[]⟩,false):=by unfold edG;rw [if_pos (show ((2:Int)=2) by omega),if_pos (show ((1:Int) < 4) by omega),if_neg (show ¬((6:Int) < 4) by omega),if_neg (show ¬((6:Int)=4) by omega),if_neg (show ¬((6:Int)=5) by omega),if_pos (show ((6:Int)=6) by omega),if_neg (show ¬((1:Int)=0) by omega),if_pos (show ((1:Int)=1) by omega)]
         rw [e]
         exact ed_a_6_1 op h0 h8 hx hy hz w
        ·skip
         by_cases q15:z=2
         ·subst q15
          have e:edG 2 6 2=(⟨#[73,78,73,82]⟩,[],⟨#[]⟩,false):=by unfold edG;rw [if_pos (show ((2:Int)=2) by omega),if_pos (show ((2:Int) < 4) by omega),if_neg (show ¬((6:Int) < 4) by omega),if_neg (show ¬((6:Int)=4) by omega),if_neg (show ¬((6:Int)=5) by omega),if_pos (show ((6:Int)=6) by omega),if_neg (show ¬((2:Int)=0) by omega),if_neg (show ¬((2:Int)=1) by omega),if_pos (show ((2:Int)=2) by omega)]
          rw [e]
          exact ed_a_6_2 op h0 h8 hx hy hz w
         ·skip
          obtain rfl:z=3:=by omega
          have e:edG 2 6 3=(⟨#[79,84,73,82]⟩,[],⟨#[]⟩,false):=by unfold edG;rw [if_pos (show ((2:Int)=2) by omega),if_pos (show ((3:Int) < 4) by omega),if_neg (show ¬((6:Int) < 4) by omega),if_neg (show ¬((6:Int)=4) by omega),if_neg (show ¬((6:Int)=5) by omega),if_pos (show ((6:Int)=6) by omega),if_neg (show ¬((3:Int)=0) by omega),if_neg (show ¬((3:Int)=1) by omega),if_neg (show ¬((3:Int)=2) by omega)]
          rw [e]
          exact ed_a_6_3 op h0 h8 hx hy hz w
      ·skip
       obtain rfl:y=7:=by omega
       by_cases q16:z=0
       ·subst q16
        have e:edG 2 7 0=(⟨#[76,68,68,82]⟩,[],⟨#[]⟩,false):=by unfold edG;rw [if_pos (show ((2:Int)=2) by omega),if_pos (show ((0:Int) < 4) by omega),if_neg (show ¬((7:Int) < 4) by omega),if_neg (show ¬((7:Int)=4) by omega),if_neg (show ¬((7:Int)=5) by omega),if_neg (show ¬((7:Int)=6) by omega),if_pos (show ((0:Int)=0) by omega)]
        rw [e]
        exact ed_a_7_0 op h0 h8 hx hy hz w
       ·skip
        by_cases q17:z=1
        ·subst q17
         have e:edG 2 7 1=(⟨#[67,80,68,82]⟩,[],⟨#[]⟩,false):=by unfold edG;rw [if_pos (show ((2:Int)=2) by omega),if_pos (show ((1:Int) < 4) by omega),if_neg (show ¬((7:Int) < 4) by omega),if_neg (show ¬((7:Int)=4) by omega),if_neg (show ¬((7:Int)=5) by omega),if_neg (show ¬((7:Int)=6) by omega),if_neg (show ¬((1:Int)=0) by omega),if_pos (show ((1:Int)=1) by omega)]
         rw [e]
         exact ed_a_7_1 op h0 h8 hx hy hz w
        ·skip
         by_cases q18:z=2
         ·subst q18
          have e:edG 2 7 2=(⟨#[73,78,68,82]⟩,[],⟨#[]⟩,false):=by unfold edG;rw [if_pos (show ((2:Int)=2) by omega),if_pos (show ((2:Int) < 4) by omega),if_neg (show ¬((7:Int) < 4) by omega),if_neg (show ¬((7:Int)=4) by omega),if_neg (show ¬((7:Int)=5) by omega),if_neg (show ¬((7:Int)=6) by omega),if_neg (show ¬((2:Int)=0) by omega),if_neg (show ¬((2:Int)=1) by omega),if_pos (show ((2:Int)=2) by omega)]
          rw [e]
          exact ed_a_7_2 op h0 h8 hx hy hz w
         ·skip
          obtain rfl:z=3:=by omega
          have e:edG 2 7 3=(⟨#[79,84,68,82]⟩,[],⟨#[]⟩,false):=by unfold edG;rw [if_pos (show ((2:Int)=2) by omega),if_pos (show ((3:Int) < 4) by omega),if_neg (show ¬((7:Int) < 4) by omega),if_neg (show ¬((7:Int)=4) by omega),if_neg (show ¬((7:Int)=5) by omega),if_neg (show ¬((7:Int)=6) by omega),if_neg (show ¬((3:Int)=0) by omega),if_neg (show ¬((3:Int)=1) by omega),if_neg (show ¬((3:Int)=2) by omega)]
          rw [e]
          exact ed_a_7_3 op h0 h8 hx hy hz w
  ·skip
   have e:edG 2 y z=(⟨#[]⟩,[],⟨#[]⟩,false):=by unfold edG;rw [if_pos (show ((2:Int)=2) by omega),if_neg (show ¬(z < 4) by omega)]
   rw [e]
   exact ed_b_1 op y z h0 h8 hy hz (by omega) (by omega) (by omega) (by omega) hx (by omega) w
 ·skip
  by_cases q19:x=1
  ·subst q19
   by_cases q20:z=0
   ·subst q20
    by_cases q21:y=6
    ·subst q21
     have e:edG 1 6 0=(⟨#[73,78]⟩,[indO 8],⟨#[]⟩,false):=by unfold edG;rw [if_neg (show ¬((1:Int)=2) by omega),if_pos (show ((1:Int)=1) by omega),if_pos (show ((0:Int)=0) by omega),if_pos (show ((6:Int)=6) by omega)]
     rw [e]
     exact ed_0a op _ _ h0 h8 hy hz (by omega) (by omega) (by omega) (by omega) hx rfl rfl w
    ·skip
     have e:edG 1 y 0=(⟨#[73,78]⟩,[rF y,indO 8],⟨#[]⟩,false):=by unfold edG;rw [if_neg (show ¬((1:Int)=2) by omega),if_pos (show ((1:Int)=1) by omega),if_pos (show ((0:Int)=0) by omega),if_neg (show ¬(y=6) by omega)]
     rw [e]
     exact ed_0b op _ _ h0 h8 hy hz (by omega) (by omega) (by omega) (by omega) hx rfl (by omega) w
   ·skip
    by_cases q22:z=1
    ·subst q22
     by_cases q23:y=6
     ·subst q23
      have e:edG 1 6 1=(⟨#[79,85,84]⟩,[indO 8,immO 0],⟨#[]⟩,false):=by unfold edG;rw [if_neg (show ¬((1:Int)=2) by omega),if_pos (show ((1:Int)=1) by omega),if_neg (show ¬((1:Int)=0) by omega),if_pos (show ((1:Int)=1) by omega),if_pos (show ((6:Int)=6) by omega)]
      rw [e]
      exact ed_1a op _ _ h0 h8 hy hz (by omega) (by omega) (by omega) (by omega) hx rfl rfl w
     ·skip
      have e:edG 1 y 1=(⟨#[79,85,84]⟩,[indO 8,rF y],⟨#[]⟩,false):=by unfold edG;rw [if_neg (show ¬((1:Int)=2) by omega),if_pos (show ((1:Int)=1) by omega),if_neg (show ¬((1:Int)=0) by omega),if_pos (show ((1:Int)=1) by omega),if_neg (show ¬(y=6) by omega)]
      rw [e]
      exact ed_1b op _ _ h0 h8 hy hz (by omega) (by omega) (by omega) (by omega) hx rfl (by omega) w
    ·skip
     by_cases q24:z=2
     ·subst q24
      by_cases q25:y % 2=0
      ·skip
       have e:edG 1 y 2=(⟨#[83,66,67]⟩,[rpF 2 3,rpF (y / 2) 3],⟨#[]⟩,false):=by unfold edG;rw [if_neg (show ¬((1:Int)=2) by omega),if_pos (show ((1:Int)=1) by omega),if_neg (show ¬((2:Int)=0) by omega),if_neg (show ¬((2:Int)=1) by omega),if_pos (show ((2:Int)=2) by omega),if_pos (show (y % 2=0) by omega)]
       rw [e]
       exact ed_2_0 op _ _ h0 h8 hy hz (by omega) (by omega) (by omega) (by omega) hx rfl (by omega) w
      ·skip
       have e:edG 1 y 2=(⟨#[65,68,67]⟩,[rpF 2 3,rpF (y / 2) 3],⟨#[]⟩,false):=by unfold edG;rw [if_neg (show ¬((1:Int)=2) by omega),if_pos (show ((1:Int)=1) by omega),if_neg (show ¬((2:Int)=0) by omega),if_neg (show ¬((2:Int)=1) by omega),if_pos (show ((2:Int)=2) by omega),if_neg (show ¬(y % 2=0) by omega)]
       rw [e]
       exact ed_2_1 op _ _ h0 h8 hy hz (by omega) (by omega) (by omega) (by omega) hx rfl (by omega) w
     ·skip
      by_cases q26:z=3
      ·subst q26
       by_cases q27:y % 2=0
       ·skip
        by_cases q28:y=4
        ·subst q28
         have e:edG 1 4 3=(⟨#[76,68]⟩,[memO,rpF 2 3],⟨#[119]⟩,true):=by unfold edG;rw [if_neg (show ¬((1:Int)=2) by omega),if_pos (show ((1:Int)=1) by omega),if_neg (show ¬((3:Int)=0) by omega),if_neg (show ¬((3:Int)=1) by omega),if_neg (show ¬((3:Int)=2) by omega),if_pos (show ((3:Int)=3) by omega),if_pos (show ((4:Int) % 2=0) by omega),if_pos (show ((4:Int)=4) by omega)]
         rw [e]
         exact ed_3_0t op h0 h8 hx hy hz w
        ·skip
         have e:edG 1 y 3=(⟨#[76,68]⟩,[memO,rpF (y / 2) 3],⟨#[119]⟩,false):=by unfold edG;rw [if_neg (show ¬((1:Int)=2) by omega),if_pos (show ((1:Int)=1) by omega),if_neg (show ¬((3:Int)=0) by omega),if_neg (show ¬((3:Int)=1) by omega),if_neg (show ¬((3:Int)=2) by omega),if_pos (show ((3:Int)=3) by omega),if_pos (show (y % 2=0) by omega),if_neg (show ¬(y=4) by omega)]
         rw [e]
         exact ed_3_0f op _ _ h0 h8 hy hz (by omega) (by omega) (by omega) (by omega) hx rfl (by omega) (by rw [beq_eq_false_iff_ne];omega) w
       ·skip
        by_cases q29:y=5
        ·subst q29
         have e:edG 1 5 3=(⟨#[76,68]⟩,[rpF 2 3,memO],⟨#[119]⟩,true):=by unfold edG;rw [if_neg (show ¬((1:Int)=2) by omega),if_pos (show ((1:Int)=1) by omega),if_neg (show ¬((3:Int)=0) by omega),if_neg (show ¬((3:Int)=1) by omega),if_neg (show ¬((3:Int)=2) by omega),if_pos (show ((3:Int)=3) by omega),if_neg (show ¬((5:Int) % 2=0) by omega),if_pos (show ((5:Int)=5) by omega)]
         rw [e]
         exact ed_3_1t op h0 h8 hx hy hz w
        ·skip
         have e:edG 1 y 3=(⟨#[76,68]⟩,[rpF (y / 2) 3,memO],⟨#[119]⟩,false):=by unfold edG;rw [if_neg (show ¬((1:Int)=2) by omega),if_pos (show ((1:Int)=1) by omega),if_neg (show ¬((3:Int)=0) by omega),if_neg (show ¬((3:Int)=1) by omega),if_neg (show ¬((3:Int)=2) by omega),if_pos (show ((3:Int)=3) by omega),if_neg (show ¬(y % 2=0) by omega),if_neg (show ¬(y=5) by omega)]
         rw [e]
         exact ed_3_1f op _ _ h0 h8 hy hz (by omega) (by omega) (by omega) (by omega) hx rfl (by omega) (by rw [beq_eq_false_iff_ne];omega) w
      ·skip
       by_cases q30:z=4
       ·subst q30
        by_cases q31:y=0
        ·subst q31
         have e:edG 1 0 4=(⟨#[78,69,71]⟩,[],⟨#[]⟩,false):=by unfold edG;rw [if_neg (show ¬((1:Int)=2) by omega),if_pos (show ((1:Int)=1) by omega),if_neg (show ¬((4:Int)=0) by omega),if_neg (show ¬((4:Int)=1) by omega),if_neg (show ¬((4:Int)=2) by omega),if_neg (show ¬((4:Int)=3) by omega),if_pos (show ((4:Int)=4) by omega),if_pos (show ((0:Int)=0) by omega)]
         rw [e]
         exact ed_4b op _ _ h0 h8 hy hz (by omega) (by omega) (by omega) (by omega) hx rfl rfl w
        ·skip
         have e:edG 1 y 4=(⟨#[78,69,71]⟩,[],⟨#[]⟩,true):=by unfold edG;rw [if_neg (show ¬((1:Int)=2) by omega),if_pos (show ((1:Int)=1) by omega),if_neg (show ¬((4:Int)=0) by omega),if_neg (show ¬((4:Int)=1) by omega),if_neg (show ¬((4:Int)=2) by omega),if_neg (show ¬((4:Int)=3) by omega),if_pos (show ((4:Int)=4) by omega),if_neg (show ¬(y=0) by omega)]
         rw [e]
         exact ed_4a op _ _ h0 h8 hy hz (by omega) (by omega) (by omega) (by omega) hx rfl (by omega) w
       ·skip
        by_cases q32:z=5
        ·subst q32
         by_cases q33:y=1
         ·subst q33
          have e:edG 1 1 5=(⟨#[82,69,84,73]⟩,[],⟨#[]⟩,false):=by unfold edG;rw [if_neg (show ¬((1:Int)=2) by omega),if_pos (show ((1:Int)=1) by omega),if_neg (show ¬((5:Int)=0) by omega),if_neg (show ¬((5:Int)=1) by omega),if_neg (show ¬((5:Int)=2) by omega),if_neg (show ¬((5:Int)=3) by omega),if_neg (show ¬((5:Int)=4) by omega),if_pos (show ((5:Int)=5) by omega),if_pos (show ((1:Int)=1) by omega)]
          rw [e]
          exact ed_5a op _ _ h0 h8 hy hz (by omega) (by omega) (by omega) (by omega) hx rfl rfl w
         ·skip
          by_cases q34:y=0
          ·subst q34
           have e:edG 1 0 5=(⟨#[82,69,84,78]⟩,[],⟨#[]⟩,false):=by unfold edG;rw [if_neg (show ¬((1:Int)=2) by omega),if_pos (show ((1:Int)=1) by omega),if_neg (show ¬((5:Int)=0) by omega),if_neg (show ¬((5:Int)=1) by omega),if_neg (show ¬((5:Int)=2) by omega),if_neg (show ¬((5:Int)=3) by omega),if_neg (show ¬((5:Int)=4) by omega),if_pos (show ((5:Int)=5) by omega),if_neg (show ¬((0:Int)=1) by omega),if_pos (show ((0:Int)=0) by omega)]
           rw [e]
           exact ed_5c op _ _ h0 h8 hy hz (by omega) (by omega) (by omega) (by omega) hx rfl rfl w
          ·skip
           have e:edG 1 y 5=(⟨#[82,69,84,78]⟩,[],⟨#[]⟩,true):=by unfold edG;rw [if_neg (show ¬((1:Int)=2) by omega),if_pos (show ((1:Int)=1) by omega),if_neg (show ¬((5:Int)=0) by omega),if_neg (show ¬((5:Int)=1) by omega),if_neg (show ¬((5:Int)=2) by omega),if_neg (show ¬((5:Int)=3) by omega),if_neg (show ¬((5:Int)=4) by omega),if_pos (show ((5:Int)=5) by omega),if_neg (show ¬(y=1) by omega),if_neg (show ¬(y=0) by omega)]
           rw [e]
           exact ed_5b op _ _ h0 h8 hy hz (by omega) (by omega) (by omega) (by omega) hx rfl (by omega) (by omega) w
        ·skip
         by_cases q35:z=6
         ·subst q35
          by_cases q36:y=0
          ·subst q36
           have e:edG 1 0 6=(⟨#[73,77]⟩,[immO 0],⟨#[]⟩,false):=by unfold edG;rw [if_neg (show ¬((1:Int)=2) by omega),if_pos (show ((1:Int)=1) by omega),if_neg (show ¬((6:Int)=0) by omega),if_neg (show ¬((6:Int)=1) by omega),if_neg (show ¬((6:Int)=2) by omega),if_neg (show ¬((6:Int)=3) by omega),if_neg (show ¬((6:Int)=4) by omega),if_neg (show ¬((6:Int)=5) by omega),if_pos (show ((6:Int)=6) by omega),if_pos (show ((0:Int)=0) by omega)]
           rw [e]
           exact ed_6_0 op h0 h8 hx hy hz w
          ·skip
           by_cases q37:y=1
           ·subst q37
            have e:edG 1 1 6=(⟨#[73,77]⟩,[immO 0],⟨#[]⟩,true):=by unfold edG;rw [if_neg (show ¬((1:Int)=2) by omega),if_pos (show ((1:Int)=1) by omega),if_neg (show ¬((6:Int)=0) by omega),if_neg (show ¬((6:Int)=1) by omega),if_neg (show ¬((6:Int)=2) by omega),if_neg (show ¬((6:Int)=3) by omega),if_neg (show ¬((6:Int)=4) by omega),if_neg (show ¬((6:Int)=5) by omega),if_pos (show ((6:Int)=6) by omega),if_neg (show ¬((1:Int)=0) by omega),if_pos (show ((1:Int)=1) by omega)]
            rw [e]
            exact ed_6_1 op h0 h8 hx hy hz w
           ·skip
            by_cases q38:y=2
            ·subst q38
             have e:edG 1 2 6=(⟨#[73,77]⟩,[immO 1],⟨#[]⟩,false):=by unfold edG;rw [if_neg (show ¬((1:Int)=2) by omega),if_pos (show ((1:Int)=1) by omega),if_neg (show ¬((6:Int)=0) by omega),if_neg (show ¬((6:Int)=1) by omega),if_neg (show ¬((6:Int)=2) by omega),if_neg (show ¬((6:Int)=3) by omega),if_neg (show ¬((6:Int)=4) by omega),if_neg (show ¬((6:Int)=5) by omega),if_pos (show ((6:Int)=6) by omega),if_neg (show ¬((2:Int)=0) by omega),if_neg (show ¬((2:Int)=1) by omega),if_pos (show ((2:Int)=2) by omega)]
             rw [e]
             exact ed_6_2 op h0 h8 hx hy hz w
            ·skip
             by_cases q39:y=3
             ·subst q39
              have e:edG 1 3 6=(⟨#[73,77]⟩,[immO 2],⟨#[]⟩,false):=by unfold edG;rw [if_neg (show ¬((1:Int)=2) by omega),if_pos (show ((1:Int)=1) by omega),if_neg (show ¬((6:Int)=0) by omega),if_neg (show ¬((6:Int)=1) by omega),if_neg (show ¬((6:Int)=2) by omega),if_neg (show ¬((6:Int)=3) by omega),if_neg (show ¬((6:Int)=4) by omega),if_neg (show ¬((6:Int)=5) by omega),if_pos (show ((6:Int)=6) by omega),if_neg (show ¬((3:Int)=0) by omega),if_neg (show ¬((3:Int)=1) by omega),if_neg (show ¬((3:Int)=2) by omega),if_pos (show ((3:Int)=3) by omega)]
              rw [e]
              exact ed_6_3 op h0 h8 hx hy hz w
             ·skip
              by_cases q40:y=4
              ·subst q40
               have e:edG 1 4 6=(⟨#[73,77]⟩,[immO 0],⟨#[]⟩,true):=by unfold edG;rw [if_neg (show ¬((1:Int)=2) by omega),if_pos (show ((1:Int)=1) by omega),if_neg (show ¬((6:Int)=0) by omega),if_neg (show ¬((6:Int)=1) by omega),if_neg (show ¬((6:Int)=2) by omega),if_neg (show ¬((6:Int)=3) by omega),if_neg (show ¬((6:Int)=4) by omega),if_neg (show ¬((6:Int)=5) by omega),if_pos (show ((6:Int)=6) by omega),if_neg (show ¬((4:Int)=0) by omega),if_neg (show ¬((4:Int)=1) by omega),if_neg (show ¬((4:Int)=2) by omega),if_neg (show ¬((4:Int)=3) by omega),if_pos (show ((4:Int)=4) by omega)]
               rw [e]
               exact ed_6_4 op h0 h8 hx hy hz w
              ·skip
               by_cases q41:y=5
               ·subst q41
                have e:edG 1 5 6=(⟨#[73,77]⟩,[immO 0],⟨#[]⟩,true):=by unfold edG;rw [if_neg (show ¬((1:Int)=2) by omega),if_pos (show ((1:Int)=1) by omega),if_neg (show ¬((6:Int)=0) by omega),if_neg (show ¬((6:Int)=1) by omega),if_neg (show ¬((6:Int)=2) by omega),if_neg (show ¬((6:Int)=3) by omega),if_neg (show ¬((6:Int)=4) by omega),if_neg (show ¬((6:Int)=5) by omega),if_pos (show ((6:Int)=6) by omega),if_neg (show ¬((5:Int)=0) by omega),if_neg (show ¬((5:Int)=1) by omega),if_neg (show ¬((5:Int)=2) by omega),if_neg (show ¬((5:Int)=3) by omega),if_neg (show ¬((5:Int)=4) by omega),if_pos (show ((5:Int)=5) by omega)]
                rw [e]
                exact ed_6_5 op h0 h8 hx hy hz w
               ·skip
                by_cases q42:y=6
                ·subst q42
                 have e:edG 1 6 6=(⟨#[73,77]⟩,[immO 1],⟨#[]⟩,true):=by unfold edG;rw [if_neg (show ¬((1:Int)=2) by omega),if_pos (show ((1:Int)=1) by omega),if_neg (show ¬((6:Int)=0) by omega),if_neg (show ¬((6:Int)=1) by omega),if_neg (show ¬((6:Int)=2) by omega),if_neg (show ¬((6:Int)=3) by omega),if_neg (show ¬((6:Int)=4) by omega),if_neg (show ¬((6:Int)=5) by omega),if_pos (show ((6:Int)=6) by omega),if_neg (show ¬((6:Int)=0) by omega),if_neg (show ¬((6:Int)=1) by omega),if_neg (show ¬((6:Int)=2) by omega),if_neg (show ¬((6:Int)=3) by omega),if_neg (show ¬((6:Int)=4) by omega),if_neg (show ¬((6:Int)=5) by omega),if_pos (show ((6:Int)=6) by omega)]
                 rw [e]
                 exact ed_6_6 op h0 h8 hx hy hz w
                ·skip
                 obtain rfl:y=7:=by omega
                 have e:edG 1 7 6=(⟨#[73,77]⟩,[immO 2],⟨#[]⟩,true):=by unfold edG;rw [if_neg (show ¬((1:Int)=2) by omega),if_pos (show ((1:Int)=1) by omega),if_neg (show ¬((6:Int)=0) by omega),if_neg (show ¬((6:Int)=1) by omega),if_neg (show ¬((6:Int)=2) by omega),if_neg (show ¬((6:Int)=3) by omega),if_neg (show ¬((6:Int)=4) by omega),if_neg (show ¬((6:Int)=5) by omega),if_pos (show ((6:Int)=6) by omega),if_neg (show ¬((7:Int)=0) by omega),if_neg (show ¬((7:Int)=1) by omega),if_neg (show ¬((7:Int)=2) by omega),if_neg (show ¬((7:Int)=3) by omega),if_neg (show ¬((7:Int)=4) by omega),if_neg (show ¬((7:Int)=5) by omega),if_neg (show ¬((7:Int)=6) by omega)]
                 rw [e]
                 exact ed_6_7 op h0 h8 hx hy hz w
         ·skip
          obtain rfl:z=7:=by omega
          by_cases q43:y=0
          ·subst q43
           have e:edG 1 0 7=(⟨#[76,68]⟩,[ctlI,accO],⟨#[]⟩,false):=by unfold edG;rw [if_neg (show ¬((1:Int)=2) by omega),if_pos (show ((1:Int)=1) by omega),if_neg (show ¬((7:Int)=0) by omega),if_neg (show ¬((7:Int)=1) by omega),if_neg (show ¬((7:Int)=2) by omega),if_neg (show ¬((7:Int)=3) by omega),if_neg (show ¬((7:Int)=4) by omega),if_neg (show ¬((7:Int)=5) by omega),if_neg (show ¬((7:Int)=6) by omega),if_pos (show ((0:Int)=0) by omega)]
           rw [e]
           exact ed_7_0 op h0 h8 hx hy hz w
          ·skip
           by_cases q44:y=1
           ·subst q44
            have e:edG 1 1 7=(⟨#[76,68]⟩,[ctlR,accO],⟨#[]⟩,false):=by unfold edG;rw [if_neg (show ¬((1:Int)=2) by omega),if_pos (show ((1:Int)=1) by omega),if_neg (show ¬((7:Int)=0) by omega),if_neg (show ¬((7:Int)=1) by omega),if_neg (show ¬((7:Int)=2) by omega),if_neg (show ¬((7:Int)=3) by omega),if_neg (show ¬((7:Int)=4) by omega),if_neg (show ¬((7:Int)=5) by omega),if_neg (show ¬((7:Int)=6) by omega),if_neg (show ¬((1:Int)=0) by omega),if_pos (show ((1:Int)=1) by omega)]
            rw [e]
            exact ed_7_1 op h0 h8 hx hy hz w
           ·skip
            by_cases q45:y=2
            ·subst q45
             have e:edG 1 2 7=(⟨#[76,68]⟩,[accO,ctlI],⟨#[]⟩,false):=by unfold edG;rw [if_neg (show ¬((1:Int)=2) by omega),if_pos (show ((1:Int)=1) by omega),if_neg (show ¬((7:Int)=0) by omega),if_neg (show ¬((7:Int)=1) by omega),if_neg (show ¬((7:Int)=2) by omega),if_neg (show ¬((7:Int)=3) by omega),if_neg (show ¬((7:Int)=4) by omega),if_neg (show ¬((7:Int)=5) by omega),if_neg (show ¬((7:Int)=6) by omega),if_neg (show ¬((2:Int)=0) by omega),if_neg (show ¬((2:Int)=1) by omega),if_pos (show ((2:Int)=2) by omega)]
             rw [e]
             exact ed_7_2 op h0 h8 hx hy hz w
            ·skip
             by_cases q46:y=3
             ·subst q46
              have e:edG 1 3 7=(⟨#[76,68]⟩,[accO,ctlR],⟨#[]⟩,false):=by unfold edG;rw [if_neg (show ¬((1:Int)=2) by omega),if_pos (show ((1:Int)=1) by omega),if_neg (show ¬((7:Int)=0) by omega),if_neg (show ¬((7:Int)=1) by omega),if_neg (show ¬((7:Int)=2) by omega),if_neg (show ¬((7:Int)=3) by omega),if_neg (show ¬((7:Int)=4) by omega),if_neg (show ¬((7:Int)=5) by omega),if_neg (show ¬((7:Int)=6) by omega),if_neg (show ¬((3:Int)=0) by omega),if_neg (show ¬((3:Int)=1) by omega),if_neg (show ¬((3:Int)=2) by omega),if_pos (show ((3:Int)=3) by omega)]
              rw [e]
              exact ed_7_3 op h0 h8 hx hy hz w
             ·skip
              by_cases q47:y=4
              ·subst q47
               have e:edG 1 4 7=(⟨#[82,82,68]⟩,[],⟨#[]⟩,false):=by unfold edG;rw [if_neg (show ¬((1:Int)=2) by omega),if_pos (show ((1:Int)=1) by omega),if_neg (show ¬((7:Int)=0) by omega),if_neg (show ¬((7:Int)=1) by omega),if_neg (show ¬((7:Int)=2) by omega),if_neg (show ¬((7:Int)=3) by omega),if_neg (show ¬((7:Int)=4) by omega),if_neg (show ¬((7:Int)=5) by omega),if_neg (show ¬((7:Int)=6) by omega),if_neg (show ¬((4:Int)=0) by omega),if_neg (show ¬((4:Int)=1) by omega),if_neg (show ¬((4:Int)=2) by omega),if_neg (show ¬((4:Int)=3) by omega),if_pos (show ((4:Int)=4) by omega)]
               rw [e]
               exact ed_7_4 op h0 h8 hx hy hz w
              ·skip
               by_cases q48:y=5
               ·subst q48
                have e:edG 1 5 7=(⟨#[82,76,68]⟩,[],⟨#[]⟩,false):=by unfold edG;rw [if_neg (show ¬((1:Int)=2) by omega),if_pos (show ((1:Int)=1) by omega),if_neg (show ¬((7:Int)=0) by omega),if_neg (show ¬((7:Int)=1) by omega),if_neg (show ¬((7:Int)=2) by omega),if_neg (show ¬((7:Int)=3) by omega),if_neg (show ¬((7:Int)=4) by omega),if_neg (show ¬((7:Int)=5) by omega),if_neg (show ¬((7:Int)=6) by omega),if_neg (show ¬((5:Int)=0) by omega),if_neg (show ¬((5:Int)=1) by omega),if_neg (show ¬((5:Int)=2) by omega),if_neg (show ¬((5:Int)=3) by omega),if_neg (show ¬((5:Int)=4) by omega),if_pos (show ((5:Int)=5) by omega)]
                rw [e]
                exact ed_7_5 op h0 h8 hx hy hz w
               ·skip
                by_cases q49:y=6
                ·subst q49
                 have e:edG 1 6 7=(⟨#[]⟩,[],⟨#[]⟩,false):=by unfold edG;rw [if_neg (show ¬((1:Int)=2) by omega),if_pos (show ((1:Int)=1) by omega),if_neg (show ¬((7:Int)=0) by omega),if_neg (show ¬((7:Int)=1) by omega),if_neg (show ¬((7:Int)=2) by omega),if_neg (show ¬((7:Int)=3) by omega),if_neg (show ¬((7:Int)=4) by omega),if_neg (show ¬((7:Int)=5) by omega),if_neg (show ¬((7:Int)=6) by omega),if_neg (show ¬((6:Int)=0) by omega),if_neg (show ¬((6:Int)=1) by omega),if_neg (show ¬((6:Int)=2) by omega),if_neg (show ¬((6:Int)=3) by omega),if_neg (show ¬((6:Int)=4) by omega),if_neg (show ¬((6:Int)=5) by omega),if_pos (show ((6:Int)=6) by omega)]
                 rw [e]
                 exact ed_7_6 op h0 h8 hx hy hz w
                ·skip
                 obtain rfl:y=7:=by omega
                 have e:edG 1 7 7=(⟨#[]⟩,[],⟨#[]⟩,false):=by unfold edG;rw [if_neg (show ¬((1:Int)=2) by omega),if_pos (show ((1:Int)=1) by omega),if_neg (show ¬((7:Int)=0) by omega),if_neg (show ¬((7:Int)=1) by omega),if_neg (show ¬((7:Int)=2) by omega),if_neg (show ¬((7:Int)=3) by omega),if_neg (show ¬((7:Int)=4) by omega),if_neg (show ¬((7:Int)=5) by omega),if_neg (show ¬((7:Int)=6) by omega),if_neg (show ¬((7:Int)=0) by omega),if_neg (show ¬((7:Int)=1) by omega),if_neg (show ¬((7:Int)=2) by omega),if_neg (show ¬((7:Int)=3) by omega),if_neg (show ¬((7:Int)=4) by omega),if_neg (show ¬((7:Int)=5) by omega),if_neg (show ¬((7:Int)=6) by omega)]
                 rw [e]
                 exact ed_7_7 op h0 h8 hx hy hz w
  ·skip
   have e:edG x y z=(⟨#[]⟩,[],⟨#[]⟩,false):=by unfold edG;rw [if_neg (show ¬(x=2) by omega),if_neg (show ¬(x=1) by omega)]
   rw [e]
   exact ed_b_0 op y z h0 h8 hy hz (by omega) (by omega) (by omega) (by omega) x hx (by omega) (by omega) w
theorem ed9_any (op:Int) (h0:0≤op) (h8:op < 256) (w:World):Calls Tryz.prog 85 #[.int .u8 op] w (InsA w (edF op).1 (edF op).2.1 (edF op).2.2.1 (edF op).2.2.2):=
 edG_any op _ _ _ h0 h8 rfl rfl rfl (by omega) (by omega) (by omega) (by omega) w
end Go.Proofs.YtnbmbcjnncbaiaaGreatDoor
