/-
  Go's data in memory, append, rows of bytes, strings and numbers. breadboardref12.Same on alike items; decode.At. Alike items. Conditions: sizes; the library's table as its initialiser lays it.
-/
import Derived.Test.YtmpmciccgempeaaGreatDoorBC4
import Derived.Test.YtmpmciccgempeaaGreatDoorBU1
namespace Go.Proofs.YtmpmciccgempeaaGreatDoor
open Go.RowKit
section
variable {P:Program} (w:World)
end
section
variable {P:Program} {α:Type} {n:Nat} {enc:α→List Value} {h0:∀x,(enc x).length=n} {h1:∀x,∀u∈enc x,u.oneCell'=true}
end
theorem nK (w:World) (p:aB) (v:Value) (l:List UInt8) (h:SlR aI w p v l):(convert 32 9 v).run Tryz.prog w=.ok (.string ⟨l.toArray⟩) w:=by
 obtain ⟨a,c,rfl,hc,hm,g⟩:=h
 cases l with
 | nil=>
  have hx:=run_convert_bytes_string (P:=Tryz.prog) w 32 9 5 a 0 c Tryz.underlying32 Tryz.underlying5 Tryz.underlying9
  show (convert _ _ (.slice a 0 c)).run _ w=_
  rw [hx]
  cases a<;>(simp [Conv.bytesToString,loadCells,loadCellsFrom];rfl)
 | cons x xs=>
  obtain ⟨b,o,cs,rfl,_,_,_⟩:=g 0 x rfl
  exact run_convert_bytes_back w _ _ _ _ c (x::xs) Tryz.underlying32 Tryz.underlying5 Tryz.underlying9 (fun j hj=>by
   obtain ⟨b',o',cs',e,_,_,hcs,hr⟩:=g j (x::xs)[j] (List.getElem?_eq_getElem hj)
   injection e with e
   injection e with e1 e2
   subst e1 e2
   have hr:cs'=[.int .u8 ((x::xs)[j].toNat:Int)]:=hr
   subst hr
   have:=hcs 0 _ rfl
   have hadd:(⟨b,o,none⟩:Addr).add j=⟨b,o+j,none⟩:=by unfold Addr.add;split<;>simp_all
   rw [hadd]
   simpa [aI,Rep.flat] using this)
end Go.Proofs.YtmpmciccgempeaaGreatDoor
namespace Go.Proofs.YtmpmciccgempeaaGreatDoor
open Go.RowKit Go.Shelf Go.Sort
set_option maxHeartbeats 4000000 in
set_option maxRecDepth 100000 in
theorem EU (x : Itm) (l : List UInt8) (B1 B2 : Nat) (v1 v2 : Value) (w : World) (h1 : dW w B1 x l v1) (h2 : dW w B2 x l v2) :
    Calls Tryz.prog 32 #[v1, v2] w fun e w' => e = .returned (.bool true) ∧ RowKit.Below w.heap.size w w' := by
  obtain ⟨ra, rc, va, vc, rfl, s1, a1⟩ := h1
  obtain ⟨rb, rd, vb, vd, rfl, s2, a2⟩ := h2
  unfold qU
  generalize l.take x.n = R at *
  obtain ⟨k, n, op, args, al⟩ := x
  dsimp only at *
  have HF := aA (((Fr.start w).new' 34 #[.int .i64 k, .slice ra R.length rc, .string ⟨op.toArray⟩, .slice va args.length vc, .bool al] (b := w.heap.size) rfl).new' 34 #[.int .i64 k, .slice rb R.length rd, .string ⟨op.toArray⟩, .slice vb args.length vd, .bool al] (b := w.heap.size + 1) (World.size_alloc _ _))
  have k1 := nK _ _ _ R (s1.below HF.out.below)
  have k2 := nK _ _ _ R (s2.below HF.out.below)
  have HS := aA (nB _ _ ⟨⟨op.toArray⟩, args⟩ ⟨⟨op.toArray⟩, args⟩ (.slice va args.length vc) (.slice vb args.length vd) _ (a1.below HF.out.below) (a2.below HF.out.below))
  rw [show fG ⟨⟨op.toArray⟩, args⟩ ⟨⟨op.toArray⟩, args⟩ = true by simp [fG]] at HS
  dsimp only at HS
  obtain ⟨S, hS⟩ : ∃ S : ByteArray, S = ⟨R.toArray⟩ := ⟨_, rfl⟩
  rw [← hS] at k1 k2
  obtain ⟨O, hO⟩ : ∃ S : ByteArray, S = ⟨op.toArray⟩ := ⟨_, rfl⟩
  rw [← hO] at HS HF k1 k2 ⊢
  clear hS hO s1 s2 a1 a2
  obtain ⟨W, hW⟩ : ∃ W : World, W = ((w.alloc (.cells #[.int .i64 k, .slice ra R.length rc, .string O, .slice va args.length vc, .bool al] 34)).alloc (.cells #[.int .i64 k, .slice rb R.length rd, .string O, .slice vb args.length vd, .bool al] 34)) := ⟨_, rfl⟩
  rw [← hW] at HS HF k1 k2
  obtain ⟨⟨c0, c1, c2, c3, c4⟩, _⟩ := (HF.out.blk 1 rfl).five
  obtain ⟨⟨d0, d1, d2, d3, d4⟩, _⟩ := (HF.out.blk 0 rfl).five
  go_enter Tryz.func32, Tryz.ntmps32
  go_upto_region 1 with fail
  rw [← hW]
  clear hW
  go_wp2_with (go_at_call 27; refine (HS.out).mono ?_; rintro e w4 ⟨rfl, hb⟩; have H4 := aA (HF.out.next hb); clear hb c0 c1 c2 c3 c4 d0 d1 d2 d3 d4; obtain ⟨⟨c0, c1, c2, c3, c4⟩, _⟩ := (H4.out.blk 1 rfl).five; obtain ⟨⟨d0, d1, d2, d3, d4⟩, _⟩ := (H4.out.blk 0 rfl).five)
  go_ret
  exact ⟨rfl, H4.out.below⟩
theorem same12_self (x:Itm) (l:List UInt8) (B1 B2:Nat) (v1 v2:Value) (w:World) (h1:dW w B1 x l v1) (h2:dW w B2 x l v2):
  Calls Tryz.prog 32 #[v1,v2] w fun e w'=>e=.returned (.bool true)∧RowKit.Below w.heap.size w w':=EU x l B1 B2 v1 v2 w h1 h2
end Go.Proofs.YtmpmciccgempeaaGreatDoor
