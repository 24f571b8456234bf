import Derived.Test.YtafflnognagadaaGreatDoorZU
import Derived.Test.YtafflnognagadaaGreatDoorZSA
set_option maxHeartbeats 16000000
set_option maxRecDepth 100000
namespace Go.Proofs.YtafflnognagadaaGreatDoor
open Go.RowKit
def exS (n:Nat):zFv:={ at1:=[(⟨#[97]⟩,1),(⟨#[98]⟩,2)],aa:=some ⟨n,0,none⟩,ca:=2,rs:=[⟨⟨#[114]⟩,some ⟨n+1,0,none⟩,2,[0,1]⟩,⟨⟨#[113]⟩,some ⟨n+2,0,none⟩,1,[0]⟩],ar:=some ⟨n+3,0,none⟩,cr:=2,fs:=[⟨1,1,0⟩],af:=some ⟨n+4,0,none⟩,cf:=1,lb := -1 }
def exW (w:World):World:=(((((w.alloc (.cells #[.string ⟨#[97]⟩,.int .i64 1,.string ⟨#[98]⟩,.int .i64 2] 66)).alloc (.cells #[.int .i64 0,.int .i64 1] 3)).alloc (.cells #[.int .i64 0] 3)).alloc (.cells #[.string ⟨#[114]⟩,.slice (some ⟨w.heap.size+1,0,none⟩) 2 2,.string ⟨#[113]⟩,.slice (some ⟨w.heap.size+2,0,none⟩) 1 1] 68)).alloc (.cells #[.int .i64 1,.int .i64 1,.int .i64 0] 75)).alloc (.cells (exS w.heap.size).cells 31)
def valQ (q:Rat):Bool:=bndB q.num&&decide (1<=zVs (q.den:Int)/\zVs (q.den:Int)<=12)
theorem zOa (x:Int):Lib.itoa x≠[]:=by
 by_cases h:x<0
 ·rw [show x = -((x.natAbs:Nat):Int) by omega,zNv _ oMx]
  simp
 rw [show x=((x.natAbs:Nat):Int) by omega,zNx];exact zKr _
theorem zUe (q:Rat):(zUb q).toList≠[]:=by
 rw [Lib.toList_data,zUc]
 intro h
 by_cases hd:q.den=1
 ·rw [zUk hd] at h;exact absurd h (zOa _)
 rw [zUj hd] at h
 simp at h
theorem bndB_eq (x:Int):bndB x=(decide (-1000000000<=x)&&decide (x<=1000000000)):=by
 unfold bndB zVr zVs
 by_cases h:x.natAbs<=4611686018427387904
 ·rw [if_pos h,decide_eq_true h,Bool.true_and]
 rw [if_neg h,decide_eq_false h,Bool.false_and]
 by_cases h1 : -1000000000<=x
 ·rw [decide_eq_true h1,Bool.true_and,decide_eq_false oMx]
 rw [decide_eq_false h1,Bool.false_and]
theorem str_some (x:Int):(str x).toList≠[]:=by rw [zWq];exact zOa x
theorem ValKey_n (nm:ByteArray) (n:Int) (w:World) (hf:Fits n):Calls Tryz.prog 109 #[.agg #[.string nm,.int .i64 1],.string (str n)] w fun e w'=>e = .returned (.bool (bndB n))/\Below w.heap.size w w' :=
 zGn nm (str n) (bndB n) w (str_some n) (fun W=>zIf n W hf)
theorem zVu {d:Nat} (h:d<=20):zVr (d:Int)=true/\zVs (d:Int)=d:=by
 unfold zVr zVs;rw [if_pos oMx];exact ⟨decide_eq_true oMx,rfl⟩
end Go.Proofs.YtafflnognagadaaGreatDoor
