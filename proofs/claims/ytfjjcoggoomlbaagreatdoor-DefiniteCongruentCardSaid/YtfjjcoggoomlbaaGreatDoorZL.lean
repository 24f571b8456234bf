import Derived.Test.YtfjjcoggoomlbaaGreatDoorZF
import Derived.Test.YtfjjcoggoomlbaaGreatDoorCards
import Derived.Test.YtfjjcoggoomlbaaGreatDoorTie
import Derived.ProofKit
import Derived.OpenShut
import Derived.Deep.DeepWitnessRowRef
import Derived.Stop.LaidErr
import Derived.Lay
set_option maxHeartbeats 16000000
set_option maxRecDepth 100000
namespace Go.Proofs.YtfjjcoggoomlbaaGreatDoor
open Go.RowKit
def modI (x n:Int):Int:=(x.tmod n+n).tmod n
theorem zRz (x n:Int) (h:1≤n):0≤modI x n∧modI x n<n:=by
 unfold modI
 have h1:0≤x.tmod n+n:=by
  have:=Int.tmod_lt_of_pos (-x) (show 0<n by omega)
  rw [Int.neg_tmod] at this
  omega
 exact ⟨Int.tmod_nonneg _ h1,Int.tmod_lt_of_pos _ (by omega)⟩
theorem Mod_any (x n:Int) (w:World) (h1:1≤n) (h2:n≤1000000) (_hx : -9223372036854775808≤x) (_hx':x≤9223372036854775807) :
  Calls Tryz.prog 44 #[.int .i64 x,.int .i64 n] w fun e w'=>e = .returned (.int .i64 (modI x n))∧w=w':=by
 have hn1:¬n<1:=by omega
 have hn0:(n==0)=false:=by rw [beq_eq_false_iff_ne];omega
 have b1 : -1000000≤x.tmod n:=by
  have:=Int.tmod_lt_of_pos (-x) (show 0<n by omega)
  rw [Int.neg_tmod] at this
  omega
 have b2:x.tmod n≤1000000:=by
  have:=Int.tmod_lt_of_pos x (show 0<n by omega)
  omega
 have E:=oH (show (x.tmod n+n).tmod n=modI x n from rfl)
 have b3:0≤x.tmod n+n:=by
  have:=Int.tmod_lt_of_pos (-x) (show 0<n by omega)
  rw [Int.neg_tmod] at this
  omega
 have E2:=oH (show (x.tmod n+n)%n=modI x n by unfold modI;rw [Int.tmod_eq_emod_of_nonneg b3])
 go_enter Tryz.func44,Tryz.ntmps44
 go_wp2
 go_ret
 refine ⟨?_,rfl⟩
 have E3:x.tmod n%n=modI x n:=by rw [←E2.out,Int.add_emod_right]
 first|(rw [←E.out];rfl)|(rw [←E2.out];rfl)|(rw [←E3];rfl)
def Src (w:World) (b:Nat):Prop:=∃ (A:Option Addr) (l c k:Nat),w.heap[b]? = some (.cells #[.slice A l c,.int .i64 (k:Int)] 68 (0,0))∧l≤600∧k≤l ∧
 (0<l→∃ bb off,A=some ⟨bb,off,none⟩∧bb<b∧bb<w.heap.size∧∀ i,i<l→∃ z:Int,w.cell? ⟨bb,off+i,none⟩=some (.int .i64 z) ∧ -9223372036854775808≤z∧z≤9223372036854775807)
theorem Src.lt {w:World} {b:Nat} (h:Src w b):b<w.heap.size:=by
 obtain ⟨A,l,c,k,hb,_⟩:=h
 rcases Nat.lt_or_ge b w.heap.size with hlt|hge
 ·exact hlt
 ·rw [Array.getElem?_eq_none hge] at hb;cases hb
theorem Src.below {w w':World} {b:Nat} (h:Src w b) (hb:Below w.heap.size w w'):Src w' b:=by
 have hlt:=h.lt
 obtain ⟨A,l,c,k,hbk,hl,hk,hc⟩:=h
 refine ⟨A,l,c,k,(hb.block b hlt).trans hbk,hl,hk,fun h0=>?_⟩
 obtain ⟨bb,off,e,hne,hlt',hcell⟩:=hc h0
 have:=hb.size
 exact ⟨bb,off,e,hne,by omega,fun i hi=>by
  obtain ⟨z,hz,h1,h2⟩:=hcell i hi
  exact ⟨z,(hb.cell (p:=⟨bb,off+i,none⟩) hlt').trans hz,h1,h2⟩⟩
theorem Src.above {w w':World} {b:Nat} (h:Src w b) (hs:w.heap.size≤w'.heap.size) (hk:∀ i,i≤b→w'.heap[i]? = w.heap[i]?):Src w' b:=by
 obtain ⟨A,l,c,k,hbk,hl,hk',hc⟩:=h
 refine ⟨A,l,c,k,(hk b (Nat.le_refl _)).trans hbk,hl,hk',fun h0=>?_⟩
 obtain ⟨bb,off,e,hne,hlt',hcell⟩:=hc h0
 exact ⟨bb,off,e,hne,by omega,fun i hi=>by
  obtain ⟨z,hz,h1,h2⟩:=hcell i hi
  exact ⟨z,(World.cell?_of_block (w:=w) (a:=⟨bb,off+i,none⟩) (hk bb (Nat.le_of_lt hne))).trans hz,h1,h2⟩⟩
def RetN (w:World) (b:Nat) (n:Int) (e:Ending) (w':World):Prop:=∃ r:Nat,e = .returned (.int .i64 (r:Int))∧(r:Int)<n∧Src w' b∧w.grownBy w' (some b)
theorem zDa (b:Nat) (n:Int) (w:World) (hs:Src w b) (h1:1≤n) (h2:n≤1000000):Calls Tryz.prog 9 #[.pointer (some ⟨b,0,none⟩),.int .i64 n] w (RetN w b n):=by
 have HS:=oH hs
 obtain ⟨A,l,c,k,hbk,hl,hk,hc⟩:=hs
 have h0c:w.cell? ⟨b,0,none⟩=some (.slice A l c):=cell_of_row _ _ 0 _ _ _ hbk
 have h1c:w.cell? ⟨b,1,none⟩=some (.int .i64 (k:Int)):=cell_of_row _ _ 1 _ _ _ hbk
 have h1f:w.frozen? ⟨b,1,none⟩=false:=frozen_of_row _ _ 1 _ _ hbk
 by_cases hlt:k<l
 ·obtain ⟨bb,off,rfl,hne,hbb,hcell⟩:=hc (by omega)
  obtain ⟨z,hz,hz1,hz2⟩:=hcell k hlt
  have hz':∀ u,(w.setCell ⟨b,1,none⟩ u).cell? ⟨bb,off+k,none⟩=some (.int .i64 z):=fun u=>(cell_far u (by show bb≠b;exact Nat.ne_of_lt hne)).trans hz
  have HBK:=oH hbk
  have HCELL:=oH hcell
  have hd:decide ((l:Int)≤(k:Int))=false:=by simp;omega
  clear hbk hcell hz hc
  go_enter Tryz.func9,Tryz.ntmps9
  go_wp2_with fail
  go_quiet (fail)
  go_wp2_with fail
  have hw3:((w.drewN nq).setCell ⟨b,1,none⟩ (.int .i64 ((k:Int)+1))).heap[b]? = some (.cells #[.slice (some ⟨bb,off,none⟩) l c,.int .i64 ((k:Int)+1)] 68 (0,0)):=by
   have hbk:(w.drewN nq).heap[b]? = some (.cells #[.slice (some ⟨bb,off,none⟩) l c,.int .i64 (k:Int)] 68 (0,0)):=HBK.out
   exact heap_setCell_same (w.drewN nq) b 1 _ _ _ hbk
  have hz3:((w.drewN nq).setCell ⟨b,1,none⟩ (.int .i64 ((k:Int)+1))).cell? ⟨bb,off+k,none⟩=some (.int .i64 z):=hz' _
  have hg3:w.grownBy ((w.drewN nq).setCell ⟨b,1,none⟩ (.int .i64 ((k:Int)+1))) (some b):=zUi (p:=⟨b,1,none⟩) (zUh (World.grownBy.refl w (some b)) nq) (.inl rfl) _
  generalize (w.drewN nq).setCell ⟨b,1,none⟩ (.int .i64 ((k:Int)+1))=W at *
  have d0:W.cell? ⟨b,0,none⟩=some (.slice (some ⟨bb,off,none⟩) l c):=cell_of_row _ _ 0 _ _ _ hw3
  have d1:W.cell? ⟨b,1,none⟩=some (.int .i64 ((k:Int)+1)):=cell_of_row _ _ 1 _ _ _ hw3
  have HW3:=oH hw3
  have HG3:=oH hg3
  clear hw3 hg3 hz' h0c h1c h1f
  have e1:IntKind.i64.wrap ((k:Int)+1-1)=(k:Int):=by rw [IntWalk.i64_in _ (by omega)];omega
  have e2:(k:Int)+1-1=(k:Int):=by omega
  have hi0:(0:Int)≤(k:Int):=by omega
  have hi1:(k:Int)<(l:Int):=by omega
  go_quiet ((go_at_call 44;exact zWj (Mod_any z n _ h1 h2 hz1 hz2)))
  clear e1 e2
  go_wp2_with fail
  go_ret
  obtain ⟨m1,m2⟩:=zRz z n h1
  refine ⟨(modI z n).toNat,by rw [Int.toNat_of_nonneg m1];rfl,by omega,?_,zUh HG3.out _⟩
  refine ⟨_,l,c,k+1,by rw [Int.natCast_succ];exact HW3.out,hl,hlt,fun _=>⟨bb,off,rfl,hne,?_,fun i hi=>?_⟩⟩
  ·have:=HG3.out.size;exact Nat.lt_of_lt_of_le hbb this
  ·obtain ⟨z',hz',hb1,hb2⟩:=HCELL.out i hi
   exact ⟨z',(World.cell?_of_block (w:=w) (a:=⟨bb,off+i,none⟩) (HG3.out.block bb hbb (fun e=>Nat.ne_of_lt hne (by injection e)))).trans hz',hb1,hb2⟩
 ·have hd:decide ((l:Int)≤(k:Int))=true:=by simp;omega
  clear hc hbk
  go_enter Tryz.func9,Tryz.ntmps9
  go_wp2_with fail
  go_quiet (fail)
  go_wp2_with fail
  go_ret
  exact ⟨0,rfl,by omega,HS.out,zUh (World.grownBy.refl _ _) _⟩
def Ints (w:World) (A:Option Addr) (l:Nat):Prop:=0<l→∃ bb off,A=some ⟨bb,off,none⟩∧bb<w.heap.size∧∀ i,i<l→∃ z:Int,w.cell? ⟨bb,off+i,none⟩=some (.int .i64 z) ∧ -9223372036854775808≤z∧z≤9223372036854775807
theorem Src.new {w:World} {A:Option Addr} {l c:Nat} (h:Ints w A l) (hl:l≤600):Src (w.alloc (.cells #[.slice A l c,.int .i64 0] 68)) w.heap.size:=by
 refine ⟨A,l,c,0,heap_alloc_new w _,hl,Nat.zero_le _,fun h0=>?_⟩
 obtain ⟨bb,off,e,hlt,hc⟩:=h h0
 refine ⟨bb,off,e,by omega,by simp;omega,fun i hi=>?_⟩
 obtain ⟨z,hz,h1,h2⟩:=hc i hi
 exact ⟨z,(World.cell?_alloc_lt w _ ⟨bb,off+i,none⟩ hlt).trans hz,h1,h2⟩
theorem zDc (A:Option Addr) (l c:Nat) (w:World) (h:Ints w A l) (hlc:l≤c) (hl:l≤9223372036854775807):Calls Tryz.prog 8 #[.slice A l c] w fun e w'=>e = .returned (.pointer (some ⟨w.heap.size,0,none⟩))∧Src w' w.heap.size∧Below w.heap.size w w':=by
 rcases Nat.lt_or_ge l 600 with h6|h6
 ·have HS:=oH (Src.new (c:=c) h (show l≤600 by omega))
  clear h
  go_enter Tryz.func8,Tryz.ntmps8
  go_wp2
  go_ret
  rw [show (min (l:Int) 600).toNat=l by omega]
  exact ⟨rfl,HS.out,bA⟩
 ·have h':Ints w A 600:=fun _=>by
   obtain ⟨bb,off,e,hlt,hc⟩:=h (by omega)
   exact ⟨bb,off,e,hlt,fun i hi=>hc i (by omega)⟩
  have HS:=oH (Src.new (c:=c) h' (show 600≤600 by omega))
  clear h h'
  go_enter Tryz.func8,Tryz.ntmps8
  go_wp2
  go_ret
  rw [show (min (l:Int) 600).toNat=600 by omega]
  exact ⟨rfl,HS.out,bA⟩
def RetBig (w:World) (b d:Nat) (e:Ending) (w':World):Prop:=∃ z:Int,e = .returned (.string (str z))∧(Lib.decDigits z.natAbs).length≤d∧Src w' b∧w.grownBy w' (some b)
theorem zNy {a b c:World} {g:Nat} (h:a.grownBy b (some g)) (k:b.grownBy c (some g)):a.grownBy c (some g) :=
 ⟨k.os.trans h.os,k.tape.trans h.tape,k.output.trans h.output,Nat.le_trans h.size k.size,fun i hi hne=>(k.block i (Nat.lt_of_lt_of_le hi h.size) hne).trans (h.block i hi hne)⟩
theorem zHx (a b:List UInt8):(⟨a.toArray⟩:ByteArray)++⟨b.toArray⟩=⟨(a++b).toArray⟩:=by
 apply ByteArray.ext;simp
theorem xBd {w:World} {b:Nat} (h:Src w b) (o:Obj):Src (w.alloc o) b:=h.below (bA)
theorem str_zero:str 0=⟨#[48]⟩:=by unfold str;rw [zOv]
theorem zCu (b g n:Nat) (S:Nat→ByteArray) (w:World) (hs:Src w b) (hrow:∀ i,i<n→w.cell? ⟨g,i,none⟩=some (.string (S i))) (hgb:g≠b) (hg:g<w.heap.size) (hn1:1≤n) (hn2:n≤1000) :
  Calls Tryz.prog 80 #[.pointer (some ⟨b,0,none⟩),.slice (some ⟨g,0,none⟩) n n] w fun e w'=>∃ i,i<n∧e = .returned (.string (S i))∧Src w' b∧w.grownBy w' (some b):=by
 have HS:=oH hs
 have HROW:=oH hrow
 clear hs hrow
 go_enter Tryz.func80,Tryz.ntmps80
 go_wp2_with fail
 refine (zDa b (n:Int) w HS.out (by omega) (by omega)).mono ?_
 rintro e w1 ⟨r,rfl,hr,hs1,hg1⟩
 have hcell:w1.cell? ⟨g,r,none⟩=some (.string (S r)):=(World.cell?_of_block (w:=w) (a:=⟨g,r,none⟩) (hg1.block g hg (fun e=>hgb (by injection e)))).trans (HROW.out r (by omega))
 have HS1:=oH hs1
 have HG1:=oH hg1
 have hrn:r<n:=by omega
 clear hs1 hg1
 go_wp2_with fail
 go_ret
 exact ⟨r,hrn,rfl,HS1.out,HG1.out⟩
def odds:List ByteArray:=[⟨#[]⟩,⟨#[45]⟩,⟨#[48]⟩,⟨#[45,48]⟩,⟨#[48,48]⟩,⟨#[43,49]⟩,⟨#[49,47,50]⟩,⟨#[48,55]⟩,⟨#[45,49,50]⟩,⟨#[32,49]⟩,⟨#[49,32]⟩,⟨#[57,120]⟩,⟨#[57,57,57,57,57,57,57,57,57,57,57,57,57,57,57,57,57,57,57,57]⟩]
theorem xBx {n:Nat} (h:n<10):str (n:Int)=⟨#[UInt8.ofNat (48+n)]⟩:=by unfold str;rw [zOs,Lib.decDigits_one h]
theorem str_1:str 1=⟨#[49]⟩:=xBx (n:=1) (by decide)
theorem zNc {x:Int} (h:x.natAbs<1000000000):Fits x:=by
 have:=zKh (r:=x.natAbs) (k:=9) (by omega) (by simpa using h)
 unfold Fits;omega
def Dig (d:Nat) (x:Int):Prop:=x.natAbs<10^d
theorem Dig.fits {d:Nat} {x:Int} (h:Dig d x) (hd1:1≤d) (hd:d≤400):Fits x:=by
 have:=zKh (r:=x.natAbs) (k:=d) hd1 h
 unfold Fits;omega
theorem Dig.mono {a b:Nat} {x:Int} (h:Dig a x) (hab:a≤b):Dig b x:=Nat.lt_of_lt_of_le h (Nat.pow_le_pow_right (by decide) hab)
theorem Dig.mul {a b c:Nat} {x y z:Int} (h:Dig a x) (k:Dig b y) (hz:x*y=z) (hc:a+b=c):Dig c z:=by
 subst hz;subst hc
 unfold Dig at *
 rw [Int.natAbs_mul,Nat.pow_add]
 exact Nat.mul_lt_mul'' h k
open Go.ChangeShapes Go.WideShapes Go.ChangeAt Go.RowKit
theorem own:ownKnob Tryz.prog.godebug=none:=by kernel_rfl
theorem gPow:Tryz.prog.globalNamed "internal/strconv.uint64pow10" = some 1:=by kernel_rfl
theorem gPowType:(Tryz.prog.globals[1]?).map (·.type)=some 224:=by kernel_rfl
theorem cellsPow:Tryz.prog.cellsOf 224=20:=by kernel_rfl
theorem cellsU64:Tryz.prog.cellsOf 169=1:=by kernel_rfl
theorem zIz:Tryz.prog.cellsOf 3=1:=by kernel_rfl
def laidList:List (String × DataW Unit):=[("math/bits.deBruijn32tab",Rows.laid_math_bits_deBruijn32tab),("math/bits.deBruijn64tab",Rows.laid_math_bits_deBruijn64tab),("internal/strconv.uint64pow10",Rows.laid_internal_strconv_uint64pow10),("strconv.ErrRange",Rows.laid_strconv_ErrRange),("strconv.ErrSyntax",Rows.laid_strconv_ErrSyntax)]
theorem zOy:(laidList.all fun x=>x.2.handleName?.isNone)=true:=by kernel_rfl
theorem tab_of {W:World} (h:laidMetH Tryz.prog laidList W):Tab W:=by
 rw [MakeChecks.laidMetH_plain _ _ _ zOy] at h
 exact Lib.tabIs_of_head (rest:=[("strconv.ErrRange",Rows.laid_strconv_ErrRange),("strconv.ErrSyntax",Rows.laid_strconv_ErrSyntax)]) gPow gPowType Tryz.underlying224 Tryz.underlying169 cellsU64 cellsPow h.tail.tail
theorem laid_met (os:Os) (args:Array Value):laidMetH Tryz.prog laidList ((World.laidAll Tryz.prog os laidList).forCall (fun _ _=>0) ⟨#[],args,[]⟩).memory:=by
 rw [MakeChecks.laidMetH_plain _ _ _ zOy]
 exact laidMet_laidAll _ (by kernel_rfl) (by kernel_rfl)
section
variable {H:Type} {enc:TypeId × Value→H}
theorem ints_in {W:World} {base:Nat} {v:Value} {d:DataW H} {p:List MemPlace} (hv:Value.okWide Tryz.prog W .any base 22 v)
  (h:DataW.Trod enc Tryz.prog W 0 (fun _=>true) true 22 v d p) :
  ∃ (A:Option Addr) (l c:Nat),v = .slice A l c∧Ints W A l∧l≤c∧l≤9223372036854775807 ∧
   ∀ W',Below W.heap.size W W'→∀ sp:Nat→Bool,(∀ x∈p,sp x.block=true)→DataW.Trod enc Tryz.prog W' 0 sp true 22 v d p:=by
 obtain ⟨a0,len,cap,rfl⟩:=okWide_slice Tryz.underlying22 hv
 obtain ⟨fuel,hf⟩:=h
 rcases open_ints Tryz.underlying22 Tryz.underlying3 zIz hf with ⟨hcs,hx⟩|⟨a,len',cap',zs,hcs,_,hl,hm,hz,hx,hcell,hwz⟩
 ·obtain ⟨rfl,rfl,rfl⟩:a0=none∧len=0∧cap=0:=by simpa [Value.cells] using hcs
  obtain ⟨rfl,rfl⟩:d = .nil∧p=[]:=by simpa using hx
  exact ⟨none,0,0,rfl,fun h=>absurd h (by decide),Nat.le_refl _,by decide,fun W' _ sp _=>shut_slice_nil Tryz.underlying22⟩
 ·obtain ⟨rfl,rfl,rfl⟩:a0=some a∧len=len'∧cap=cap':=by simpa [Value.cells] using hcs
  obtain ⟨rfl,rfl⟩:d = .slice (lits .i64 (zs.take len)) (lits .i64 (zs.drop len))∧p=MemPlace.row a zs.length:=by simpa using hx
  have hzc:zs.length=cap:=by simpa using hz
  have hlt:∀ i,i<zs.length→a.block<W.heap.size:=fun i hi=>by
   have h1:=hcell i hi
   rcases Nat.lt_or_ge a.block W.heap.size with hl'|hg'
   ·exact hl'
   ·exfalso
    rw [←block_add a i] at hg'
    unfold World.cell? at h1
    rw [Array.getElem?_eq_none hg'] at h1
    simp at h1
  have hm':cap≤9223372036854775807:=hm
  refine ⟨some a,len,cap,rfl,?_,hl,by omega,?_⟩
  ·intro h0
   obtain ⟨b,off,spot⟩:=a
   have hs:=World.cell?_spot (hcell 0 (by omega))
   have hspot:spot=none:=hs
   subst hspot
   refine ⟨b,off,rfl,hlt 0 (by omega),fun i hi=>⟨zs.getD i 0,by have:=hcell i (by omega);rwa [Lib.add_plain] at this,?_⟩⟩
   have hmem:zs.getD i 0∈zs:=by
    rw [List.getD_eq_getElem?_getD,List.getElem?_eq_getElem (by omega)]
    exact List.getElem_mem _
   have:=hwz _ hmem
   rw [Lit.wf,show IntKind.i64.min = -9223372036854775808 by decide,show IntKind.i64.max=9223372036854775807 by decide] at this
   simpa using this
  ·intro W' hb sp hsp
   refine ⟨2,shut_ints 0 Tryz.underlying22 Tryz.underlying3 zIz (Nat.zero_le _) hl hm ?_ ?_ hwz⟩
   ·by_cases h0:zs.length=0
    ·rw [h0];split<;>omega
    ·have:=hsp (.cell a.block (a.off+0)) (MemPlace.mem_row.2 ⟨0,by omega,rfl⟩)
     have hsa:sp a.block=true:=this
     rw [if_pos hsa];exact hzc
   ·intro i hi
    rw [hb.cell (by rw [block_add];exact hlt i hi)]
    exact hcell i hi
theorem post_true {f:Func} {s:ChangeSpec} {W W':World} {args:Array Value} {ds:List (DataW H)} {before:List MemPlace}
  (hW:DataW.Whole enc Tryz.prog f.params.toList s.vars false W args.toList ds [] before) (hv:s.vars=[]) (hfr:(s.fn H (ds++[])).results=[.lit (.bool true)]) (hfa:(s.fn H (ds++[])).args=ds) (hfv:(s.fn H (ds++[])).vars=[])
  (hrt:f.resultTypes=#[4]) (hb:Below W.heap.size W W')
  (hargs:∀ sp:Nat→Bool,(∀ x∈before,sp x.block=true)→DataW.TrodAll enc Tryz.prog W' 0 sp true f.params.toList args.toList ds before) :
  s.post enc Tryz.prog f false true false false W args (.bool true) W':=by
 have hlt:∀ p∈before,p.block<W.heap.size:=fun p hp=>hW.lt p hp
 refine ⟨ds,[],before,[],before,[],hW,?_,?_,?_,World.keptBut_mono (fun p hp=>⟨hp,Or.inr (Or.inl hp)⟩) (hb.frame (· ∈ before)),fun h=>by cases h⟩
 ·rw [hrt,hfr]
  exact trodAll_cons_mk (shut_bool Tryz.underlying4 _) trodAll_mk0
 ·rw [hfa]
  exact hargs _ fun p hp=>by simpa using hlt p hp
 ·rw [hfv,hv]
  rfl
end
end Go.Proofs.YtfjjcoggoomlbaaGreatDoor
