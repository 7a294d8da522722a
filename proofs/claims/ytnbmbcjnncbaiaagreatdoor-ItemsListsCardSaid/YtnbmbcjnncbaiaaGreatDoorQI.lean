/-
  The reference's first instructions with the prefix ED. Conditions: the opcode is a byte.
-/
import Derived.Test.YtnbmbcjnncbaiaaGreatDoorPG
namespace Go.Proofs.YtnbmbcjnncbaiaaGreatDoor
set_option maxHeartbeats 4000000
set_option maxRecDepth 100000
open Go.RowKit Go.Shelf Go.Sort
def InsA (w:World) (s:ByteArray) (l:List Opd) (ex:ByteArray) (al:Bool) (e:Ending) (w':World):Prop:=∃v,e=.returned (.tuple #[.agg #[.string s,v],.string ex,.bool al])∧OpdOwn w' (fun b=>w.heap.size≤b) v l∧Below w.heap.size w w'
theorem two_lit (a b c d e f:Int) (w:World):Calls Tryz.prog 115 #[.agg #[.int .i64 a,.int .i64 b,.int .i64 c],.agg #[.int .i64 d,.int .i64 e,.int .i64 f]] w fun e' w'=>∃v,e'=.returned v∧OpdOwn w' (fun b=>w.heap.size≤b) v [⟨a,b,c⟩,⟨d,e,f⟩]∧Below w.heap.size w w':=two_any ⟨a,b,c⟩ ⟨d,e,f⟩ w
def ctlI:Opd:=⟨9,0,0⟩
def ctlR:Opd:=⟨9,1,0⟩
theorem insA_end {fn:Func} {p u t:Tmp} (h:fn.results=#[.cell p 27,.tmp u,.tmp t]) {tmps:Array Value} {w':World} {s v:Value} {g:Nat} (hp:tmps.getD p undef=.pointer (some ⟨g,0,none⟩))
  (hg:Blk w' g 27 #[s,v]):(results fn tmps).run Tryz.prog w'=.ok (.tuple #[.agg #[s,v],tmps.getD u undef,tmps.getD t undef]) w':=
 results_row_tmp2 h tmps w' g 27 _ (0,0) _ hp hg Tryz.underlying27 rfl (by kernel_rfl)
theorem ed_a_4_0 (op:Int) (_h0:0≤op) (_h8:op < 256) (hx:op / 64=2) (hy:op / 8 % 8=4) (hz:op % 8=0) (w:World):Calls Tryz.prog 85 #[.int .u8 op] w (InsA w ⟨#[76,68,73]⟩ [] ⟨#[]⟩ false):=by
 have H:=Lib.hid ((Fr.start w).new' 27 #[.string ⟨#[]⟩,.slice none 0 0] rfl)
 go_enter Tryz.func85,Tryz.ntmps85
 go_wp2_with (go_at_call 114;refine (frI (Lib.hid (H.out.next (by (repeat' (first | (with_reducible exact Below.refl _ _) | (with_reducible assumption) | (with_reducible refine Below.alloc ?_ ?_ _) | (with_reducible refine Below.drew ?_) | (with_reducible refine Below.setCell ?_ ?_ _) | (with_reducible exact Nat.le_refl _) | omega | (simp;done) | (simp;omega)))))) (ins9_any _ none 0 0 _ (opdOwn_none _ (fun k=>w.heap.size < k)))).mono ?_;rintro e w' ⟨rfl,HO,H⟩;obtain ⟨e0,e1,d0,d1⟩:=(H.out.blk 0 rfl).two)
 obtain ⟨h1,h2⟩:=put_ins (x:=.string ⟨#[76,68,73]⟩) (y:=.slice none 0 0) H.out.below HO.out (fun k hk=>hk) (Nat.le_refl _)
 exact bodyPost_ret (insA_end rfl rfl (((H.out.blk 0 rfl).set 0 _).set 1 _)) rfl ⟨_,rfl,h1,h2⟩
theorem ed_a_4_1 (op:Int) (_h0:0≤op) (_h8:op < 256) (hx:op / 64=2) (hy:op / 8 % 8=4) (hz:op % 8=1) (w:World):Calls Tryz.prog 85 #[.int .u8 op] w (InsA w ⟨#[67,80,73]⟩ [] ⟨#[]⟩ false):=by
 have H:=Lib.hid ((Fr.start w).new' 27 #[.string ⟨#[]⟩,.slice none 0 0] rfl)
 go_enter Tryz.func85,Tryz.ntmps85
 go_wp2_with (go_at_call 114;refine (frI (Lib.hid (H.out.next (by (repeat' (first | (with_reducible exact Below.refl _ _) | (with_reducible assumption) | (with_reducible refine Below.alloc ?_ ?_ _) | (with_reducible refine Below.drew ?_) | (with_reducible refine Below.setCell ?_ ?_ _) | (with_reducible exact Nat.le_refl _) | omega | (simp;done) | (simp;omega)))))) (ins9_any _ none 0 0 _ (opdOwn_none _ (fun k=>w.heap.size < k)))).mono ?_;rintro e w' ⟨rfl,HO,H⟩;obtain ⟨e0,e1,d0,d1⟩:=(H.out.blk 0 rfl).two)
 obtain ⟨h1,h2⟩:=put_ins (x:=.string ⟨#[67,80,73]⟩) (y:=.slice none 0 0) H.out.below HO.out (fun k hk=>hk) (Nat.le_refl _)
 exact bodyPost_ret (insA_end rfl rfl (((H.out.blk 0 rfl).set 0 _).set 1 _)) rfl ⟨_,rfl,h1,h2⟩
theorem ed_a_4_2 (op:Int) (_h0:0≤op) (_h8:op < 256) (hx:op / 64=2) (hy:op / 8 % 8=4) (hz:op % 8=2) (w:World):Calls Tryz.prog 85 #[.int .u8 op] w (InsA w ⟨#[73,78,73]⟩ [] ⟨#[]⟩ false):=by
 have H:=Lib.hid ((Fr.start w).new' 27 #[.string ⟨#[]⟩,.slice none 0 0] rfl)
 go_enter Tryz.func85,Tryz.ntmps85
 go_wp2_with (go_at_call 114;refine (frI (Lib.hid (H.out.next (by (repeat' (first | (with_reducible exact Below.refl _ _) | (with_reducible assumption) | (with_reducible refine Below.alloc ?_ ?_ _) | (with_reducible refine Below.drew ?_) | (with_reducible refine Below.setCell ?_ ?_ _) | (with_reducible exact Nat.le_refl _) | omega | (simp;done) | (simp;omega)))))) (ins9_any _ none 0 0 _ (opdOwn_none _ (fun k=>w.heap.size < k)))).mono ?_;rintro e w' ⟨rfl,HO,H⟩;obtain ⟨e0,e1,d0,d1⟩:=(H.out.blk 0 rfl).two)
 obtain ⟨h1,h2⟩:=put_ins (x:=.string ⟨#[73,78,73]⟩) (y:=.slice none 0 0) H.out.below HO.out (fun k hk=>hk) (Nat.le_refl _)
 exact bodyPost_ret (insA_end rfl rfl (((H.out.blk 0 rfl).set 0 _).set 1 _)) rfl ⟨_,rfl,h1,h2⟩
theorem ed_a_4_3 (op:Int) (_h0:0≤op) (_h8:op < 256) (hx:op / 64=2) (hy:op / 8 % 8=4) (hz:op % 8=3) (w:World):Calls Tryz.prog 85 #[.int .u8 op] w (InsA w ⟨#[79,85,84,73]⟩ [] ⟨#[]⟩ false):=by
 have H:=Lib.hid ((Fr.start w).new' 27 #[.string ⟨#[]⟩,.slice none 0 0] rfl)
 go_enter Tryz.func85,Tryz.ntmps85
 go_wp2_with (go_at_call 114;refine (frI (Lib.hid (H.out.next (by (repeat' (first | (with_reducible exact Below.refl _ _) | (with_reducible assumption) | (with_reducible refine Below.alloc ?_ ?_ _) | (with_reducible refine Below.drew ?_) | (with_reducible refine Below.setCell ?_ ?_ _) | (with_reducible exact Nat.le_refl _) | omega | (simp;done) | (simp;omega)))))) (ins9_any _ none 0 0 _ (opdOwn_none _ (fun k=>w.heap.size < k)))).mono ?_;rintro e w' ⟨rfl,HO,H⟩;obtain ⟨e0,e1,d0,d1⟩:=(H.out.blk 0 rfl).two)
 obtain ⟨h1,h2⟩:=put_ins (x:=.string ⟨#[79,85,84,73]⟩) (y:=.slice none 0 0) H.out.below HO.out (fun k hk=>hk) (Nat.le_refl _)
 exact bodyPost_ret (insA_end rfl rfl (((H.out.blk 0 rfl).set 0 _).set 1 _)) rfl ⟨_,rfl,h1,h2⟩
theorem ed_a_5_0 (op:Int) (_h0:0≤op) (_h8:op < 256) (hx:op / 64=2) (hy:op / 8 % 8=5) (hz:op % 8=0) (w:World):Calls Tryz.prog 85 #[.int .u8 op] w (InsA w ⟨#[76,68,68]⟩ [] ⟨#[]⟩ false):=by
 have H:=Lib.hid ((Fr.start w).new' 27 #[.string ⟨#[]⟩,.slice none 0 0] rfl)
 go_enter Tryz.func85,Tryz.ntmps85
 go_wp2_with (go_at_call 114;refine (frI (Lib.hid (H.out.next (by (repeat' (first | (with_reducible exact Below.refl _ _) | (with_reducible assumption) | (with_reducible refine Below.alloc ?_ ?_ _) | (with_reducible refine Below.drew ?_) | (with_reducible refine Below.setCell ?_ ?_ _) | (with_reducible exact Nat.le_refl _) | omega | (simp;done) | (simp;omega)))))) (ins9_any _ none 0 0 _ (opdOwn_none _ (fun k=>w.heap.size < k)))).mono ?_;rintro e w' ⟨rfl,HO,H⟩;obtain ⟨e0,e1,d0,d1⟩:=(H.out.blk 0 rfl).two)
 obtain ⟨h1,h2⟩:=put_ins (x:=.string ⟨#[76,68,68]⟩) (y:=.slice none 0 0) H.out.below HO.out (fun k hk=>hk) (Nat.le_refl _)
 exact bodyPost_ret (insA_end rfl rfl (((H.out.blk 0 rfl).set 0 _).set 1 _)) rfl ⟨_,rfl,h1,h2⟩
theorem ed_a_5_1 (op:Int) (_h0:0≤op) (_h8:op < 256) (hx:op / 64=2) (hy:op / 8 % 8=5) (hz:op % 8=1) (w:World):Calls Tryz.prog 85 #[.int .u8 op] w (InsA w ⟨#[67,80,68]⟩ [] ⟨#[]⟩ false):=by
 have H:=Lib.hid ((Fr.start w).new' 27 #[.string ⟨#[]⟩,.slice none 0 0] rfl)
 go_enter Tryz.func85,Tryz.ntmps85
 go_wp2_with (go_at_call 114;refine (frI (Lib.hid (H.out.next (by (repeat' (first | (with_reducible exact Below.refl _ _) | (with_reducible assumption) | (with_reducible refine Below.alloc ?_ ?_ _) | (with_reducible refine Below.drew ?_) | (with_reducible refine Below.setCell ?_ ?_ _) | (with_reducible exact Nat.le_refl _) | omega | (simp;done) | (simp;omega)))))) (ins9_any _ none 0 0 _ (opdOwn_none _ (fun k=>w.heap.size < k)))).mono ?_;rintro e w' ⟨rfl,HO,H⟩;obtain ⟨e0,e1,d0,d1⟩:=(H.out.blk 0 rfl).two)
 obtain ⟨h1,h2⟩:=put_ins (x:=.string ⟨#[67,80,68]⟩) (y:=.slice none 0 0) H.out.below HO.out (fun k hk=>hk) (Nat.le_refl _)
 exact bodyPost_ret (insA_end rfl rfl (((H.out.blk 0 rfl).set 0 _).set 1 _)) rfl ⟨_,rfl,h1,h2⟩
theorem ed_a_5_2 (op:Int) (_h0:0≤op) (_h8:op < 256) (hx:op / 64=2) (hy:op / 8 % 8=5) (hz:op % 8=2) (w:World):Calls Tryz.prog 85 #[.int .u8 op] w (InsA w ⟨#[73,78,68]⟩ [] ⟨#[]⟩ false):=by
 have H:=Lib.hid ((Fr.start w).new' 27 #[.string ⟨#[]⟩,.slice none 0 0] rfl)
 go_enter Tryz.func85,Tryz.ntmps85
 go_wp2_with (go_at_call 114;refine (frI (Lib.hid (H.out.next (by (repeat' (first | (with_reducible exact Below.refl _ _) | (with_reducible assumption) | (with_reducible refine Below.alloc ?_ ?_ _) | (with_reducible refine Below.drew ?_) | (with_reducible refine Below.setCell ?_ ?_ _) | (with_reducible exact Nat.le_refl _) | omega | (simp;done) | (simp;omega)))))) (ins9_any _ none 0 0 _ (opdOwn_none _ (fun k=>w.heap.size < k)))).mono ?_;rintro e w' ⟨rfl,HO,H⟩;obtain ⟨e0,e1,d0,d1⟩:=(H.out.blk 0 rfl).two)
 obtain ⟨h1,h2⟩:=put_ins (x:=.string ⟨#[73,78,68]⟩) (y:=.slice none 0 0) H.out.below HO.out (fun k hk=>hk) (Nat.le_refl _)
 exact bodyPost_ret (insA_end rfl rfl (((H.out.blk 0 rfl).set 0 _).set 1 _)) rfl ⟨_,rfl,h1,h2⟩
theorem ed_a_5_3 (op:Int) (_h0:0≤op) (_h8:op < 256) (hx:op / 64=2) (hy:op / 8 % 8=5) (hz:op % 8=3) (w:World):Calls Tryz.prog 85 #[.int .u8 op] w (InsA w ⟨#[79,85,84,68]⟩ [] ⟨#[]⟩ false):=by
 have H:=Lib.hid ((Fr.start w).new' 27 #[.string ⟨#[]⟩,.slice none 0 0] rfl)
 go_enter Tryz.func85,Tryz.ntmps85
 go_wp2_with (go_at_call 114;refine (frI (Lib.hid (H.out.next (by (repeat' (first | (with_reducible exact Below.refl _ _) | (with_reducible assumption) | (with_reducible refine Below.alloc ?_ ?_ _) | (with_reducible refine Below.drew ?_) | (with_reducible refine Below.setCell ?_ ?_ _) | (with_reducible exact Nat.le_refl _) | omega | (simp;done) | (simp;omega)))))) (ins9_any _ none 0 0 _ (opdOwn_none _ (fun k=>w.heap.size < k)))).mono ?_;rintro e w' ⟨rfl,HO,H⟩;obtain ⟨e0,e1,d0,d1⟩:=(H.out.blk 0 rfl).two)
 obtain ⟨h1,h2⟩:=put_ins (x:=.string ⟨#[79,85,84,68]⟩) (y:=.slice none 0 0) H.out.below HO.out (fun k hk=>hk) (Nat.le_refl _)
 exact bodyPost_ret (insA_end rfl rfl (((H.out.blk 0 rfl).set 0 _).set 1 _)) rfl ⟨_,rfl,h1,h2⟩
theorem ed_a_6_0 (op:Int) (_h0:0≤op) (_h8:op < 256) (hx:op / 64=2) (hy:op / 8 % 8=6) (hz:op % 8=0) (w:World):Calls Tryz.prog 85 #[.int .u8 op] w (InsA w ⟨#[76,68,73,82]⟩ [] ⟨#[]⟩ false):=by
 have H:=Lib.hid ((Fr.start w).new' 27 #[.string ⟨#[]⟩,.slice none 0 0] rfl)
 go_enter Tryz.func85,Tryz.ntmps85
 go_wp2_with (go_at_call 114;refine (frI (Lib.hid (H.out.next (by (repeat' (first | (with_reducible exact Below.refl _ _) | (with_reducible assumption) | (with_reducible refine Below.alloc ?_ ?_ _) | (with_reducible refine Below.drew ?_) | (with_reducible refine Below.setCell ?_ ?_ _) | (with_reducible exact Nat.le_refl _) | omega | (simp;done) | (simp;omega)))))) (ins9_any _ none 0 0 _ (opdOwn_none _ (fun k=>w.heap.size < k)))).mono ?_;rintro e w' ⟨rfl,HO,H⟩;obtain ⟨e0,e1,d0,d1⟩:=(H.out.blk 0 rfl).two)
 obtain ⟨h1,h2⟩:=put_ins (x:=.string ⟨#[76,68,73,82]⟩) (y:=.slice none 0 0) H.out.below HO.out (fun k hk=>hk) (Nat.le_refl _)
 exact bodyPost_ret (insA_end rfl rfl (((H.out.blk 0 rfl).set 0 _).set 1 _)) rfl ⟨_,rfl,h1,h2⟩
theorem ed_a_6_1 (op:Int) (_h0:0≤op) (_h8:op < 256) (hx:op / 64=2) (hy:op / 8 % 8=6) (hz:op % 8=1) (w:World):Calls Tryz.prog 85 #[.int .u8 op] w (InsA w ⟨#[67,80,73,82]⟩ [] ⟨#[]⟩ false):=by
 have H:=Lib.hid ((Fr.start w).new' 27 #[.string ⟨#[]⟩,.slice none 0 0] rfl)
 go_enter Tryz.func85,Tryz.ntmps85
 go_wp2_with (go_at_call 114;refine (frI (Lib.hid (H.out.next (by (repeat' (first | (with_reducible exact Below.refl _ _) | (with_reducible assumption) | (with_reducible refine Below.alloc ?_ ?_ _) | (with_reducible refine Below.drew ?_) | (with_reducible refine Below.setCell ?_ ?_ _) | (with_reducible exact Nat.le_refl _) | omega | (simp;done) | (simp;omega)))))) (ins9_any _ none 0 0 _ (opdOwn_none _ (fun k=>w.heap.size < k)))).mono ?_;rintro e w' ⟨rfl,HO,H⟩;obtain ⟨e0,e1,d0,d1⟩:=(H.out.blk 0 rfl).two)
 obtain ⟨h1,h2⟩:=put_ins (x:=.string ⟨#[67,80,73,82]⟩) (y:=.slice none 0 0) H.out.below HO.out (fun k hk=>hk) (Nat.le_refl _)
 exact bodyPost_ret (insA_end rfl rfl (((H.out.blk 0 rfl).set 0 _).set 1 _)) rfl ⟨_,rfl,h1,h2⟩
theorem ed_a_6_2 (op:Int) (_h0:0≤op) (_h8:op < 256) (hx:op / 64=2) (hy:op / 8 % 8=6) (hz:op % 8=2) (w:World):Calls Tryz.prog 85 #[.int .u8 op] w (InsA w ⟨#[73,78,73,82]⟩ [] ⟨#[]⟩ false):=by
 have H:=Lib.hid ((Fr.start w).new' 27 #[.string ⟨#[]⟩,.slice none 0 0] rfl)
 go_enter Tryz.func85,Tryz.ntmps85
 go_wp2_with (go_at_call 114;refine (frI (Lib.hid (H.out.next (by (repeat' (first | (with_reducible exact Below.refl _ _) | (with_reducible assumption) | (with_reducible refine Below.alloc ?_ ?_ _) | (with_reducible refine Below.drew ?_) | (with_reducible refine Below.setCell ?_ ?_ _) | (with_reducible exact Nat.le_refl _) | omega | (simp;done) | (simp;omega)))))) (ins9_any _ none 0 0 _ (opdOwn_none _ (fun k=>w.heap.size < k)))).mono ?_;rintro e w' ⟨rfl,HO,H⟩;obtain ⟨e0,e1,d0,d1⟩:=(H.out.blk 0 rfl).two)
 obtain ⟨h1,h2⟩:=put_ins (x:=.string ⟨#[73,78,73,82]⟩) (y:=.slice none 0 0) H.out.below HO.out (fun k hk=>hk) (Nat.le_refl _)
 exact bodyPost_ret (insA_end rfl rfl (((H.out.blk 0 rfl).set 0 _).set 1 _)) rfl ⟨_,rfl,h1,h2⟩
theorem ed_a_6_3 (op:Int) (_h0:0≤op) (_h8:op < 256) (hx:op / 64=2) (hy:op / 8 % 8=6) (hz:op % 8=3) (w:World):Calls Tryz.prog 85 #[.int .u8 op] w (InsA w ⟨#[79,84,73,82]⟩ [] ⟨#[]⟩ false):=by
 have H:=Lib.hid ((Fr.start w).new' 27 #[.string ⟨#[]⟩,.slice none 0 0] rfl)
 go_enter Tryz.func85,Tryz.ntmps85
 go_wp2_with (go_at_call 114;refine (frI (Lib.hid (H.out.next (by (repeat' (first | (with_reducible exact Below.refl _ _) | (with_reducible assumption) | (with_reducible refine Below.alloc ?_ ?_ _) | (with_reducible refine Below.drew ?_) | (with_reducible refine Below.setCell ?_ ?_ _) | (with_reducible exact Nat.le_refl _) | omega | (simp;done) | (simp;omega)))))) (ins9_any _ none 0 0 _ (opdOwn_none _ (fun k=>w.heap.size < k)))).mono ?_;rintro e w' ⟨rfl,HO,H⟩;obtain ⟨e0,e1,d0,d1⟩:=(H.out.blk 0 rfl).two)
 obtain ⟨h1,h2⟩:=put_ins (x:=.string ⟨#[79,84,73,82]⟩) (y:=.slice none 0 0) H.out.below HO.out (fun k hk=>hk) (Nat.le_refl _)
 exact bodyPost_ret (insA_end rfl rfl (((H.out.blk 0 rfl).set 0 _).set 1 _)) rfl ⟨_,rfl,h1,h2⟩
theorem ed_a_7_0 (op:Int) (_h0:0≤op) (_h8:op < 256) (hx:op / 64=2) (hy:op / 8 % 8=7) (hz:op % 8=0) (w:World):Calls Tryz.prog 85 #[.int .u8 op] w (InsA w ⟨#[76,68,68,82]⟩ [] ⟨#[]⟩ false):=by
 have H:=Lib.hid ((Fr.start w).new' 27 #[.string ⟨#[]⟩,.slice none 0 0] rfl)
 go_enter Tryz.func85,Tryz.ntmps85
 go_wp2_with (go_at_call 114;refine (frI (Lib.hid (H.out.next (by (repeat' (first | (with_reducible exact Below.refl _ _) | (with_reducible assumption) | (with_reducible refine Below.alloc ?_ ?_ _) | (with_reducible refine Below.drew ?_) | (with_reducible refine Below.setCell ?_ ?_ _) | (with_reducible exact Nat.le_refl _) | omega | (simp;done) | (simp;omega)))))) (ins9_any _ none 0 0 _ (opdOwn_none _ (fun k=>w.heap.size < k)))).mono ?_;rintro e w' ⟨rfl,HO,H⟩;obtain ⟨e0,e1,d0,d1⟩:=(H.out.blk 0 rfl).two)
 obtain ⟨h1,h2⟩:=put_ins (x:=.string ⟨#[76,68,68,82]⟩) (y:=.slice none 0 0) H.out.below HO.out (fun k hk=>hk) (Nat.le_refl _)
 exact bodyPost_ret (insA_end rfl rfl (((H.out.blk 0 rfl).set 0 _).set 1 _)) rfl ⟨_,rfl,h1,h2⟩
theorem ed_a_7_1 (op:Int) (_h0:0≤op) (_h8:op < 256) (hx:op / 64=2) (hy:op / 8 % 8=7) (hz:op % 8=1) (w:World):Calls Tryz.prog 85 #[.int .u8 op] w (InsA w ⟨#[67,80,68,82]⟩ [] ⟨#[]⟩ false):=by
 have H:=Lib.hid ((Fr.start w).new' 27 #[.string ⟨#[]⟩,.slice none 0 0] rfl)
 go_enter Tryz.func85,Tryz.ntmps85
 go_wp2_with (go_at_call 114;refine (frI (Lib.hid (H.out.next (by (repeat' (first | (with_reducible exact Below.refl _ _) | (with_reducible assumption) | (with_reducible refine Below.alloc ?_ ?_ _) | (with_reducible refine Below.drew ?_) | (with_reducible refine Below.setCell ?_ ?_ _) | (with_reducible exact Nat.le_refl _) | omega | (simp;done) | (simp;omega)))))) (ins9_any _ none 0 0 _ (opdOwn_none _ (fun k=>w.heap.size < k)))).mono ?_;rintro e w' ⟨rfl,HO,H⟩;obtain ⟨e0,e1,d0,d1⟩:=(H.out.blk 0 rfl).two)
 obtain ⟨h1,h2⟩:=put_ins (x:=.string ⟨#[67,80,68,82]⟩) (y:=.slice none 0 0) H.out.below HO.out (fun k hk=>hk) (Nat.le_refl _)
 exact bodyPost_ret (insA_end rfl rfl (((H.out.blk 0 rfl).set 0 _).set 1 _)) rfl ⟨_,rfl,h1,h2⟩
theorem ed_a_7_2 (op:Int) (_h0:0≤op) (_h8:op < 256) (hx:op / 64=2) (hy:op / 8 % 8=7) (hz:op % 8=2) (w:World):Calls Tryz.prog 85 #[.int .u8 op] w (InsA w ⟨#[73,78,68,82]⟩ [] ⟨#[]⟩ false):=by
 have H:=Lib.hid ((Fr.start w).new' 27 #[.string ⟨#[]⟩,.slice none 0 0] rfl)
 go_enter Tryz.func85,Tryz.ntmps85
 go_wp2_with (go_at_call 114;refine (frI (Lib.hid (H.out.next (by (repeat' (first | (with_reducible exact Below.refl _ _) | (with_reducible assumption) | (with_reducible refine Below.alloc ?_ ?_ _) | (with_reducible refine Below.drew ?_) | (with_reducible refine Below.setCell ?_ ?_ _) | (with_reducible exact Nat.le_refl _) | omega | (simp;done) | (simp;omega)))))) (ins9_any _ none 0 0 _ (opdOwn_none _ (fun k=>w.heap.size < k)))).mono ?_;rintro e w' ⟨rfl,HO,H⟩;obtain ⟨e0,e1,d0,d1⟩:=(H.out.blk 0 rfl).two)
 obtain ⟨h1,h2⟩:=put_ins (x:=.string ⟨#[73,78,68,82]⟩) (y:=.slice none 0 0) H.out.below HO.out (fun k hk=>hk) (Nat.le_refl _)
 exact bodyPost_ret (insA_end rfl rfl (((H.out.blk 0 rfl).set 0 _).set 1 _)) rfl ⟨_,rfl,h1,h2⟩
theorem ed_a_7_3 (op:Int) (_h0:0≤op) (_h8:op < 256) (hx:op / 64=2) (hy:op / 8 % 8=7) (hz:op % 8=3) (w:World):Calls Tryz.prog 85 #[.int .u8 op] w (InsA w ⟨#[79,84,68,82]⟩ [] ⟨#[]⟩ false):=by
 have H:=Lib.hid ((Fr.start w).new' 27 #[.string ⟨#[]⟩,.slice none 0 0] rfl)
 go_enter Tryz.func85,Tryz.ntmps85
 go_wp2_with (go_at_call 114;refine (frI (Lib.hid (H.out.next (by (repeat' (first | (with_reducible exact Below.refl _ _) | (with_reducible assumption) | (with_reducible refine Below.alloc ?_ ?_ _) | (with_reducible refine Below.drew ?_) | (with_reducible refine Below.setCell ?_ ?_ _) | (with_reducible exact Nat.le_refl _) | omega | (simp;done) | (simp;omega)))))) (ins9_any _ none 0 0 _ (opdOwn_none _ (fun k=>w.heap.size < k)))).mono ?_;rintro e w' ⟨rfl,HO,H⟩;obtain ⟨e0,e1,d0,d1⟩:=(H.out.blk 0 rfl).two)
 obtain ⟨h1,h2⟩:=put_ins (x:=.string ⟨#[79,84,68,82]⟩) (y:=.slice none 0 0) H.out.below HO.out (fun k hk=>hk) (Nat.le_refl _)
 exact bodyPost_ret (insA_end rfl rfl (((H.out.blk 0 rfl).set 0 _).set 1 _)) rfl ⟨_,rfl,h1,h2⟩
theorem ed_b_0 (op y z:Int) (_h0:0≤op) (_h8:op < 256) (_hy:op / 8 % 8=y) (_hz:op % 8=z) (_hy0:0≤y) (_hy8:y < 8) (_hz0:0≤z) (_hz8:z < 8) (k:Int) (hx:op / 64=k) (hk1:k≠1) (hk2:k≠2) (w:World):Calls Tryz.prog 85 #[.int .u8 op] w (InsA w ⟨#[]⟩ [] ⟨#[]⟩ false):=by
 have H:=Lib.hid ((Fr.start w).new' 27 #[.string ⟨#[]⟩,.slice none 0 0] rfl)
 have k1:(k != 1)=true:=by rw [bne_iff_ne];exact hk1
 have k2:(k==2)=false:=by rw [beq_eq_false_iff_ne];exact hk2
 go_enter Tryz.func85,Tryz.ntmps85
 go_wp2
 exact bodyPost_ret (insA_end rfl rfl (H.out.blk 0 rfl)) rfl ⟨_,rfl,opdOwn_none _ _,H.out.below⟩
theorem ed_b_1 (op y z:Int) (_h0:0≤op) (_h8:op < 256) (_hy:op / 8 % 8=y) (_hz:op % 8=z) (_hy0:0≤y) (_hy8:y < 8) (_hz0:0≤z) (_hz8:z < 8) (hx:op / 64=2) (hz4:4≤z) (w:World):Calls Tryz.prog 85 #[.int .u8 op] w (InsA w ⟨#[]⟩ [] ⟨#[]⟩ false):=by
 have H:=Lib.hid ((Fr.start w).new' 27 #[.string ⟨#[]⟩,.slice none 0 0] rfl)
 go_enter Tryz.func85,Tryz.ntmps85
 go_wp2
 exact bodyPost_ret (insA_end rfl rfl (H.out.blk 0 rfl)) rfl ⟨_,rfl,opdOwn_none _ _,H.out.below⟩
theorem ed_b_2 (op y z:Int) (_h0:0≤op) (_h8:op < 256) (_hy:op / 8 % 8=y) (_hz:op % 8=z) (_hy0:0≤y) (_hy8:y < 8) (_hz0:0≤z) (_hz8:z < 8) (hx:op / 64=2) (hz4:z < 4) (hy4:y < 4) (w:World):Calls Tryz.prog 85 #[.int .u8 op] w (InsA w ⟨#[]⟩ [] ⟨#[]⟩ false):=by
 have H:=Lib.hid ((Fr.start w).new' 27 #[.string ⟨#[]⟩,.slice none 0 0] rfl)
 go_enter Tryz.func85,Tryz.ntmps85
 go_wp2
 exact bodyPost_ret (insA_end rfl rfl (H.out.blk 0 rfl)) rfl ⟨_,rfl,opdOwn_none _ _,H.out.below⟩
end Go.Proofs.YtnbmbcjnncbaiaaGreatDoor
