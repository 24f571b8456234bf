import Derived.Lib.Hide
namespace Go.Proofs.YtbjaplppalcmgaaGreatDoor
open Go.RowKit
theorem leH {a b:Nat} (h:a≤b:=by first|exact Nat.le_refl _|(simp;done)|(simp;omega)|omega):a≤b:=h
theorem bRd {B:Nat} {w x:World} (h:Below B w x:=by first|exact Below.refl _ _|exact (Below.refl _ _).drew):Below B w x:=h
theorem bTx {B:Nat} {w x:World} (h:Below B w x:=by repeat' first|(with_reducible refine Hid.out ?_;with_reducible assumption)|with_reducible exact Below.refl _ _|(with_reducible refine Below.drew ?_)|(with_reducible refine Below.alloc ?_ (by first|exact Nat.le_refl _|(simp;done)|(simp;omega)|omega) _)|(with_reducible refine Below.setCell ?_ (by first|exact Nat.le_refl _|(simp;done)|(simp;omega)|omega) _)):Below B w x:=h
theorem bTy {B:Nat} {w x:World} (h:Below B w x:=by first|with_reducible exact Below.refl _ _|with_reducible exact (Below.refl _ _).drew|(with_reducible refine Hid.out ?_;with_reducible assumption)|(with_reducible refine Below.drew ?_;with_reducible refine Hid.out ?_;with_reducible assumption)):Below B w x:=h
theorem kSx {p:Prop} (h:p:=by with_reducible refine Hid.out ?_;with_reducible assumption):p:=h
theorem bA {w:World} {o:Obj}:Below w.heap.size w (w.alloc o):=(Below.refl _ _).alloc (Nat.le_refl _) o
theorem oH {p:Prop} (h:p):Hid p:=Lib.hid h
theorem oMx {p:Prop} (h:p:=by omega):p:=h
theorem dCx {p:Prop} (h:p:=by decide):p:=h
theorem sMx {p:Prop} (h:p:=by simp):p:=h
theorem lRx {n:Nat}:n≤n:=Nat.le_refl n
theorem oLx {n:Nat}:0≤n:=Nat.zero_le n
theorem bTx2 {w a c:World} (h:Below w.heap.size w a) (k:Below a.heap.size a c):Hid (Below w.heap.size w c):=Lib.hid (h.trans (k.mono h.size))
theorem nWx (w:World):∃ w':World,w'=w:=⟨w,rfl⟩
theorem eXx {α:Type} (a:α):∃ b,a=b:=⟨a,rfl⟩
abbrev mRx:=Nat→Nat→Rat
abbrev oAx:=Option Addr
theorem bRx {B:Nat} {w:World}:Below B w w:=Below.refl B w
theorem kP {w x:World} {p:Addr} {v:Value} (h:Below w.heap.size w x) (k:w.cell? p=some v):x.cell? p=some v:=(h.cell (World.block_lt_of_cell? _ _ k)).trans k
end Go.Proofs.YtbjaplppalcmgaaGreatDoor
