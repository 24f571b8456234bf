import Derived.Test.YtfjjcoggoomlbaaGreatDoorZWR
import Derived.Test.YtfjjcoggoomlbaaGreatDoorProg
import Derived.Test.YtfjjcoggoomlbaaGreatDoorZA
import Derived.WalkSpells
import Derived.WalkLawsBesides
import Derived.BigQuiet
import Derived.Deep.DeepCutAuto
import Derived.Deep.RegionHeld3
import Derived.Laws.AppendOwnNone
import Derived.Deep.AppendLies
set_option maxHeartbeats 16000000
set_option maxRecDepth 100000
namespace Go.Proofs.YtfjjcoggoomlbaaGreatDoor
open Go.RowKit
def zAh (k:IntKind) (w:World) (A:Option Addr) (xs:List Nat):Prop :=
 xs≠[]→∃ b off,A=some ⟨b,off,none⟩∧b<w.heap.size∧∀ i,i<xs.length→w.cell? ⟨b,off+i,none⟩=some (.int k ((nth xs i:Nat):Int))
theorem zAh.nil (k:IntKind) (w:World) (A:Option Addr):zAh k w A []:=fun h=>absurd rfl h
theorem zAh.keep {k:IntKind} {w w':World} {A:Option Addr} {xs:List Nat} (h:zAh k w A xs) (hs:w.heap.size≤w'.heap.size) (hk:∀ p:Addr,p.block<w.heap.size→w'.cell? p=w.cell? p):zAh k w' A xs:=fun hn=>by
 obtain ⟨b,off,e,hb,hc⟩:=h hn
 exact ⟨b,off,e,by omega,fun i hi=>(hk _ hb).trans (hc i hi)⟩
theorem zAh.below {k:IntKind} {w w':World} {A:Option Addr} {xs:List Nat} (h:zAh k w A xs) (hb:Below w.heap.size w w'):zAh k w' A xs:=h.keep hb.size fun _ hp=>hb.cell hp
theorem zAh.drew {k:IntKind} {w:World} {A:Option Addr} {xs:List Nat} (h:zAh k w A xs):zAh k w.drew A xs:=h
theorem zAh.drewN {k:IntKind} {w:World} {A:Option Addr} {xs:List Nat} (h:zAh k w A xs) (n:Nat):zAh k (w.drewN n) A xs:=h
theorem zAh.take {k:IntKind} {w:World} {A:Option Addr} {xs:List Nat} (h:zAh k w A xs) (n:Nat):zAh k w A (xs.take n):=fun hn=>by
 obtain ⟨b,off,e,hb,hc⟩:=h (fun e=>hn (by rw [e];simp))
 refine ⟨b,off,e,hb,fun i hi=>?_⟩
 rw [hc i (by simp at hi;omega)]
 rw [nth_take (by simp at hi;omega)]
def rowOf (k:IntKind) (xs:List Nat):Array Value:=(xs.map fun x:Nat=>Value.int k (x:Int)).toArray
theorem zXn {k:IntKind} {xs:List Nat} {i:Nat} (h:i<xs.length):(rowOf k xs)[i]? = some (.int k ((nth xs i:Nat):Int)):=by
 simp [rowOf,nth,h]
theorem zXo (k:IntKind) (xs:List Nat) (i x:Nat):(rowOf k xs).setIfInBounds i (.int k (x:Int))=rowOf k (xs.set i x):=by
 simp [rowOf,List.map_set]
def Row (k:IntKind) (w:World) (g:Nat) (t:TypeId) (xs:List Nat):Prop:=w.heap[g]? = some (.cells (rowOf k xs) t (0,0))
section
variable {k:IntKind} {w w':World} {g:Nat} {t:TypeId} {xs:List Nat}
theorem Row.lt (h:Row k w g t xs):g<w.heap.size:=by
 rcases Nat.lt_or_ge g w.heap.size with hlt|hge
 ·exact hlt
 ·unfold Row at h;rw [Array.getElem?_eq_none hge] at h;cases h
theorem Row.cell (h:Row k w g t xs) {i:Nat} (hi:i<xs.length):w.cell? ⟨g,i,none⟩=some (.int k ((nth xs i:Nat):Int)):=(cell_of_row w g i _ t (0,0) h).trans (zXn hi)
theorem Row.frozen (h:Row k w g t xs) (i:Nat):w.frozen? ⟨g,i,none⟩=false:=by
 unfold Row at h
 simp [World.frozen?,h]
theorem Row.new (k:IntKind) (w:World) (t:TypeId) (xs:List Nat):Row k (w.alloc (.cells (rowOf k xs) t)) w.heap.size t xs:=heap_alloc_new w _
theorem Row.drewN (h:Row k w g t xs) (n:Nat):Row k (w.drewN n) g t xs:=h
theorem Row.alloc (h:Row k w g t xs) (o:Obj):Row k (w.alloc o) g t xs:=(Below.heap_alloc w o g h.lt).trans h
theorem Row.set (h:Row k w g t xs) (i x:Nat):Row k (w.setCell ⟨g,i,none⟩ (.int k (x:Int))) g t (xs.set i x):=by
 unfold Row at h ⊢
 simp [World.setCell,Array.getElem?_modify,h,zXo]
theorem Row.far (h:Row k w g t xs) {p:Addr} (hp:g≠p.block) (u:Value):Row k (w.setCell p u) g t xs:=(Below.heap_setCell w p u g hp).trans h
theorem Row.below {B:Nat} (h:Row k w g t xs) (hb:Below B w w') (hg:g<B):Row k w' g t xs:=(hb.block g hg).trans h
theorem Row.cells (h:Row k w g t xs):zAh k w (some ⟨g,0,none⟩) xs:=fun _=>⟨g,0,rfl,h.lt,fun i hi=>by rw [Nat.zero_add];exact h.cell hi⟩
end
theorem madeRow (k:IntKind) (n:Nat):madeCells (Value.int k 0).cells n=rowOf k (xHb n):=by
 have h:=toList_madeCells_one (.int k 0) n
 have h2:(madeCells (Value.int k 0).cells n).toList=(rowOf k (xHb n)).toList:=by
  show (madeCells #[Value.int k 0] n).toList=_
  rw [h];simp [rowOf,xHb]
 exact Array.toList_inj.1 h2
theorem zZb {P:Program} (t e:TypeId) (i:TypeInfo) (k:IntKind) (by_:Nat) (ht:P.underlying t=some (.slice e)) (hi:P.info? e=some i) (hz:i.zero=some (.int k 0)) (hs:i.size=1) (hby:i.bytes=by_)
  (n:Nat) (hb:by_*n≤281474976710656) (h63:n≤9223372036854775807) (w:World) :
  (Instr.makeSlice t (.int .i64 (n:Int)) (.int .i64 (n:Int))).run P w = .ok (.slice (some ⟨w.heap.size,0,none⟩) n n) (w.alloc (.cells (rowOf k (xHb n)) e)):=by
 have hb':(i.bytes:Int)*(n:Int)≤281474976710656:=by
  have h:((i.bytes*n:Nat):Int)≤281474976710656:=by rw [hby];omega
  rwa [Int.natCast_mul] at h
 have hr:=run_make (P:=P) w t e i (.int k 0) ht hi hz .i64 .i64 n n (by omega) (Int.le_refl _) hb' (by omega)
 simp only [Int.toNat_natCast,hs,Nat.mul_one,madeRow] at hr
 exact hr
def zCe (w:World) (v:Value) (n:Nat):Prop:=∃ A c,v = .slice A (limbs n).length c∧(limbs n).length≤c∧zAh .u64 w A (limbs n)
theorem zCe.below {w w':World} {v:Value} {n:Nat} (h:zCe w v n) (hb:Below w.heap.size w w'):zCe w' v n:=by
 obtain ⟨A,c,e,hl,hc⟩:=h
 exact ⟨A,c,e,hl,hc.below hb⟩
def zFr (w:World) (n:Nat) (e:Ending) (w':World):Prop:=∃ v,e = .returned v∧zCe w' v n∧Below w.heap.size w w'
theorem below_drewN {B:Nat} {a w:World} (h:Below B a w) (n:Nat):Below B a (w.drewN n):=⟨h.os,h.tape,h.output,h.size,h.block⟩
theorem zZu (os:List Nat) (r t:Nat):(os++xHb (r+1)).set os.length t=(os++[t])++xHb r:=by
 unfold xHb;rw [List.replicate_succ];simp
theorem Tryz.infoU64:(Tryz.prog.info? 169).map (fun i=>(i.zero,i.size,i.bytes))=some (some (.int .u64 0),1,8):=by kernel_rfl
theorem zWj {P:Program} {f:FuncId} {args:Array Value} {w:World} {n:Nat} {v:Value}
  (h:Calls P f args (w.drewN n) fun e w'=>e = .returned v∧w.drewN n=w'):Calls P f args (w.drewN n) fun e w''=>e = .returned v∧∃ m,w''=w.drewN m :=
 h.mono fun _ _ ⟨he,hm⟩=>⟨he,n,hm.symm⟩
def Blk (w:World) (g:Nat) (t:TypeId) (cs:List Value):Prop:=w.heap[g]? = some (.cells cs.toArray t (0,0))
section
variable {w w':World} {g:Nat} {t:TypeId} {cs:List Value}
theorem Blk.lt (h:Blk w g t cs):g<w.heap.size:=by
 rcases Nat.lt_or_ge g w.heap.size with hlt|hge
 ·exact hlt
 ·unfold Blk at h;rw [Array.getElem?_eq_none hge] at h;cases h
theorem Blk.cell (h:Blk w g t cs) (i:Nat):w.cell? ⟨g,i,none⟩=cs[i]? :=by
 rw [cell_of_row w g i cs.toArray t (0,0) h];simp
theorem Blk.at_ (h:Blk w g t cs) {i:Nat} {v:Value} (hi:cs[i]? = some v):w.cell? ⟨g,i,none⟩=some v:=by rw [h.cell i,hi]
theorem Blk.fr (h:Blk w g t cs) (i:Nat):w.frozen? ⟨g,i,none⟩=false:=by
 unfold Blk at h
 simp [World.frozen?,h]
theorem Blk.new (w:World) (t:TypeId) (cs:List Value):Blk (w.alloc (.cells cs.toArray t)) w.heap.size t cs:=heap_alloc_new w _
theorem Blk.alloc (h:Blk w g t cs) (o:Obj):Blk (w.alloc o) g t cs:=(Below.heap_alloc w o g h.lt).trans h
theorem Blk.drew (h:Blk w g t cs):Blk w.drew g t cs:=h
theorem Blk.set (h:Blk w g t cs) (i:Nat) (u:Value):Blk (w.setCell ⟨g,i,none⟩ u) g t (cs.set i u):=by
 unfold Blk at h ⊢
 simp [World.setCell,Array.getElem?_modify,h]
theorem Blk.far (h:Blk w g t cs) {p:Addr} (hp:g≠p.block) (u:Value):Blk (w.setCell p u) g t cs:=(Below.heap_setCell w p u g hp).trans h
theorem Blk.under {B:Nat} (h:Blk w g t cs) (hb:Below B w w') (hg:g<B):Blk w' g t cs:=(hb.block g hg).trans h
theorem Blk.below (h:Blk w g t cs) (hb:Below w.heap.size w w'):Blk w' g t cs:=(hb.block g h.lt).trans h
theorem Blk.grown {row:Option Nat} (h:Blk w g t cs) (hb:w.grownBy w' row) (hg:some g≠row):Blk w' g t cs:=(hb.block g h.lt hg).trans h
end
def zCh (w:World) (v:Value) (xs:List Nat):Prop:=∃ A c,v = .slice A xs.length c∧xs.length≤c∧zAh .i64 w A xs
theorem zCh.below {w w':World} {v:Value} {xs:List Nat} (h:zCh w v xs) (hb:Below w.heap.size w w'):zCh w' v xs:=by
 obtain ⟨A,c,e,hl,hc⟩:=h
 exact ⟨A,c,e,hl,hc.below hb⟩
def vn (xs:List Nat):List Value:=xs.map fun x:Nat=>Value.int .i64 (x:Int)
theorem xGd (xs:List Nat):(vn xs).length=xs.length:=by simp [vn]
theorem xGc {xs:List Nat} {i:Nat} (h:i<xs.length):(vn xs)[i]? = some (.int .i64 ((nth xs i:Nat):Int)):=by simp [vn,nth,h]
theorem xGf (xs:List Nat) (x:Nat):vn (xs++[x])=vn xs++[.int .i64 (x:Int)]:=by simp [vn]
theorem zVd {w:World} {B e:Nat} {v:Value} {xs:List Nat} (h:w.ownsRow B e 1 v xs.length (vn xs)):zCh w v xs:=by
 rcases h.2 with ⟨hv,h0⟩|⟨g,cap,cur,hv,hB,hg,hle,hm,hs,htake⟩
 ·have:xs=[]:=by simpa using h0
  subst this
  exact ⟨none,0,hv,by simp,zAh.nil _ _ _⟩
 ·refine ⟨_,cap,hv,hle,fun _=>⟨g,0,rfl,?_,fun i hi=>?_⟩⟩
  ·rcases Nat.lt_or_ge g w.heap.size with h'|h'
   ·exact h'
   ·rw [Array.getElem?_eq_none h'] at hg;cases hg
  ·subst hv
   have:=h.cellAt i (by omega)
   rw [Nat.zero_add,this,xGc hi]
theorem zVe {w:World} {B e:Nat} {v:Value} {xs:List Nat} (h:w.ownsRow B e 1 v xs.length (vn xs)):∃ A c,v = .slice A xs.length c∧xs.length≤c∧zAh .i64 w A xs∧∀ b off,A=some ⟨b,off,none⟩→B≤b:=by
 obtain ⟨A,c,e1,h1,h2⟩:=zVd h
 refine ⟨A,c,e1,h1,h2,?_⟩
 intro b off e2
 rcases h.2 with ⟨hv,h0⟩|⟨g,cap,cur,hv,hB,_⟩
 ·rw [e1] at hv
  injection hv with hv
  rw [e2] at hv
  cases hv
 ·rw [e1] at hv
  injection hv with hv
  rw [e2] at hv
  injection hv with hv
  injection hv with hv
  omega
theorem Tryz.infoInt:(Tryz.prog.info? 3).map (fun i=>(i.zero,i.size,i.bytes))=some (some (.int .i64 0),1,8):=by kernel_rfl
theorem zUe {w:World} {u:Value} {t:TypeId}:∀ (j:Nat) (x:Value),([u]:List Value)[j]? = some x→(w.alloc (.cells #[u] t)).cell? ((⟨w.heap.size,0,none⟩:Addr).add j)=some x:=by
 intro j x hj
 match j,hj with
 | 0,hj=>simp at hj;subst hj;simp [Addr.add]
theorem zUc {k:IntKind} {n:Int}:∀ u∈([Value.int k n]:List Value),u.oneCell'=true:=by intro u hu;simp at hu;subst hu;rfl
theorem zHw (A:Option Addr) (xs:List Nat) (c i:Nat) (w:World) (hx:zAh .u64 w A xs) (hl:xs.length≤1000000000) (_hi:i≤2000000000) :
  Calls Tryz.prog 187 #[.slice A xs.length c,.int .i64 i] w fun e w'=>e = .returned (.int .u64 ((nth xs i:Nat):Int))∧w=w':=by
 by_cases h:i<xs.length
 ·obtain ⟨b,off,rfl,hb,hc⟩:=hx (by intro e;subst e;simp at h)
  have hci:=hc i h
  clear hc
  go_enter Tryz.func187,Tryz.ntmps187
  go_wp2
  go_ret
  exact ⟨rfl,rfl⟩
 ·have e:=zTb (Nat.le_of_not_lt h)
  rw [e]
  clear e
  go_enter Tryz.func187,Tryz.ntmps187
  go_wp2
  go_ret
  exact ⟨rfl,rfl⟩
theorem xEd (A:Option Addr) (xs:List Nat) (c:Nat) (w:World) (hx:zAh .u64 w A xs) (hl:xs.length≤1000000000) (hlc:xs.length≤c) :
  Calls Tryz.prog 163 #[.slice A xs.length c] w fun e w'=>e = .returned (.slice A (xDw xs).length c)∧w=w':=by
 go_enter Tryz.func163,Tryz.ntmps163
 go_wp2
 go_loop [3] (fun n=>∃ k:Nat,k≤xs.length∧n = .int .i64 k∧xDw (xs.take k)=xDw xs) (fun n=>(intOf n).toNat)
 case atStart=>exact ⟨xs.length,Nat.le_refl _,rfl,by rw [List.take_length]⟩
 case round =>
  obtain ⟨k,hk,rfl,ht⟩:=hrel
  have HT:=oH ht
  clear ht
  rcases Nat.eq_zero_or_pos k with h0|h0
  ·subst h0
   have E:=oH (show xDw xs=[] by rw [←HT.out];rfl)
   clear HT
   go_wp2
   go_ret
   exact ⟨by rw [E.out];rfl,rfl⟩
  ·obtain ⟨b,off,rfl,hb,hc⟩:=hx (by intro e;subst e;simp at hk;omega)
   obtain ⟨j,rfl⟩:∃ j,k=j+1:=⟨k-1,by omega⟩
   have hci:=hc j (by omega)
   clear hc hx
   by_cases hz:nth xs j=0
   ·have hz':(((nth xs j:Nat):Int)==0)=true:=by simp [hz]
    have E:=oH ((xEc xs j (by omega) hz).symm.trans HT.out)
    clear hz HT
    go_wp2
    go_round
    case rel=>exact ⟨j,by omega,by go_num,E.out⟩
    case measure=>simp [intOf]
   ·have hz':(((nth xs j:Nat):Int)==0)=false:=by simp [hz]
    have E:=oH (HT.out.symm.trans (xEb xs j (by omega) hz))
    clear hz HT
    go_wp2
    go_ret
    exact ⟨by rw [E.out,List.length_take,Nat.min_eq_left hk];rfl,rfl⟩
theorem sign_neg (n:Int) (w:World) (h:n<0):Calls Tryz.prog 198 #[.int .i64 n] w fun e w'=>e = .returned (.int .i64 (-1))∧w=w':=by
 go_enter Tryz.func198,Tryz.ntmps198
 go_wp2
 go_ret
 exact ⟨rfl,rfl⟩
theorem sign_pos (n:Int) (w:World) (h:0<n):Calls Tryz.prog 198 #[.int .i64 n] w fun e w'=>e = .returned (.int .i64 1)∧w=w':=by
 have h':¬n<0:=by omega
 go_enter Tryz.func198,Tryz.ntmps198
 go_wp2
 go_ret
 exact ⟨rfl,rfl⟩
def RetInt (k:IntKind) (w:World) (n:Int) (e:Ending) (w':World):Prop:=e = .returned (.int k n)∧∃ m,w'=w.drewN m
theorem zJm (A A':Option Addr) (a b c c':Nat) (w:World) (ha:zAh .u64 w A (limbs a)) (hb:zAh .u64 w A' (limbs b)) (hla:(limbs a).length≤1000000000) (hlb:(limbs b).length≤1000000000) :
  Calls Tryz.prog 180 #[.slice A (limbs a).length c,.slice A' (limbs b).length c'] w (RetInt .i64 w (zJc a b)):=by
 by_cases hne:(limbs a).length=(limbs b).length
 ·have HE:=oH hne
  have hq:(((limbs a).length:Int) != ((limbs b).length:Int))=false:=by simp [hne]
  clear hne
  go_enter Tryz.func180,Tryz.ntmps180
  go_wp2
  go_loopw [5] (fun n wr=>∃ (k:Nat) (m:Nat),k≤(limbs a).length∧n = .int .i64 ((k:Int)-1)∧wr=w.drewN m∧val ((limbs a).drop k)=val ((limbs b).drop k)) (fun n _=>(intOf n+1).toNat)
  case atStart=>exact ⟨(limbs a).length,0,Nat.le_refl _,rfl,rfl,by rw [List.drop_length,HE.out,List.drop_length]⟩
  case round =>
   obtain ⟨k,m,hk,rfl,rfl,hd⟩:=hrel
   have HD:=oH hd
   clear hd
   rcases Nat.eq_zero_or_pos k with h0|h0
   ·subst h0
    have E:=oH (show zJc a b=0 from zJd (by have:=HD.out;simpa [xEy] using this))
    clear HD
    go_wp2
    go_ret
    exact ⟨by rw [E.out];rfl,m,rfl⟩
   ·obtain ⟨j,rfl⟩:∃ j,k=j+1:=⟨k-1,by omega⟩
    obtain ⟨g,off,rfl,hg,hc⟩:=ha (by intro e;rw [e] at hk;simp at hk)
    have hj:j<(limbs b).length:=by have:=HE.out;omega
    obtain ⟨g',off',rfl,hg',hc'⟩:=hb (by intro e;rw [e] at hj;simp at hj)
    have hci:=hc j (by omega)
    have hci':=hc' j (by omega)
    clear hc hc' ha hb
    have el:=xFa (i:=j) HE.out (by omega) (Low.limbs a) HD.out
    have eg:=xFa (i:=j) HE.out.symm (by omega) (Low.limbs b) HD.out.symm
    rw [xEy,xEy] at el eg
    have HL:=oH el
    have HG:=oH eg
    clear el eg
    by_cases h1:nth (limbs a) j<nth (limbs b) j
    ·have E:=oH (zJf (HL.out h1))
     go_wp2
     go_quiet (fail)
     go_wp2
     go_ret
     exact ⟨by rw [E.out];rfl,_,by simp only [World.drewN_drewN];rfl⟩
    ·by_cases h2:nth (limbs b) j<nth (limbs a) j
     ·have E:=oH (zJe (HG.out h2))
      go_wp2
      go_quiet (fail)
      go_wp2
      go_quiet (fail)
      go_wp2
      go_ret
      exact ⟨by rw [E.out];rfl,_,by simp only [World.drewN_drewN];rfl⟩
     ·have E:=oH (show val ((limbs a).drop j)=val ((limbs b).drop j) by rw [xEw,xEw (limbs b),HD.out];omega)
      clear HD
      go_wp2
      go_quiet (fail)
      go_wp2
      go_quiet (fail)
      go_wp2
      go_roundw
      case rel=>exact ⟨j,_,by omega,by go_num,rfl,E.out⟩
      case measure=>simp [intOf]
 ·have hq:(((limbs a).length:Int) != ((limbs b).length:Int))=true:=by simp [bne_iff_ne];omega
  rcases Nat.lt_or_gt_of_ne hne with h|h
  ·have E:=oH (zJf (zQk h))
   go_enter Tryz.func180,Tryz.ntmps180
   go_wp2_with (go_at_call 198;refine (sign_neg _ _ (by omega)).mono ?_;rintro e w' ⟨rfl,rfl⟩)
   go_ret
   exact ⟨by rw [E.out];rfl,0,rfl⟩
  ·have E:=oH (zJe (zQk h))
   go_enter Tryz.func180,Tryz.ntmps180
   go_wp2_with (go_at_call 198;refine (sign_pos _ _ (by omega)).mono ?_;rintro e w' ⟨rfl,rfl⟩)
   go_ret
   exact ⟨by rw [E.out];rfl,0,rfl⟩
def zBn (w wr:World) (g:Nat) (os:List Nat) (n k:Nat):Prop:=os.length=k∧Low os∧Row .u64 wr g 169 (os++xHb (n-k))∧Below w.heap.size w wr
theorem zBn.step {w wr:World} {g n k x:Nat} {os:List Nat} (h:zBn w wr g os n k) (hk:k<n) (hx:x<1000000000) (hg:w.heap.size≤g) :
  zBn w (wr.setCell ⟨g,k,none⟩ (.int .u64 (x:Int))) g (os++[x]) n (k+1):=by
 obtain ⟨hl,hlow,hrow,hb⟩:=h
 refine ⟨by simp [hl],hlow.snoc hx,?_,hb.setCell hg _⟩
 have h1:=hrow.set k x
 obtain ⟨r,hr⟩:∃ r,n-k=r+1:=⟨n-k-1,by omega⟩
 have hr':n-(k+1)=r:=by omega
 rw [hr] at h1
 rw [hr']
 have h2:=zZu os r x
 rw [hl] at h2
 rw [h2] at h1
 exact h1
theorem zBn.drewN {w wr:World} {g n k:Nat} {os:List Nat} (h:zBn w wr g os n k) (m:Nat):zBn w (wr.drewN m) g os n k:=⟨h.1,h.2.1,h.2.2.1,below_drewN h.2.2.2 m⟩
theorem xEe {w wr:World} {g n r:Nat} {os:List Nat} (h:zBn w wr g os n n) (hn:n≤1000000000) (hr:xDw os=limbs r) :
  Calls Tryz.prog 163 #[.slice (some ⟨g,0,none⟩) n n] wr fun e w'=>∃ v,e = .returned v∧zCe w' v r∧wr=w'∧v = .slice (some ⟨g,0,none⟩) (limbs r).length n:=by
 obtain ⟨hl,hlow,hrow,hb⟩:=h
 have e0:os++xHb (n-n)=os:=by simp [xHb]
 rw [e0] at hrow
 subst hl
 refine (xEd (some ⟨g,0,none⟩) os os.length wr hrow.cells hn (Nat.le_refl _)).mono ?_
 rintro e w' ⟨rfl,rfl⟩
 have h2:=(hrow.cells).take (xDw os).length
 rw [←xEa] at h2
 have h3:=xDx os
 rw [hr] at h2 h3
 exact ⟨_,rfl,⟨_,_,by rw [hr],h3,h2⟩,rfl,by rw [hr]⟩
theorem zHo (A A':Option Addr) (a b c c':Nat) (w:World) (ha:zAh .u64 w A (limbs a)) (hb:zAh .u64 w A' (limbs b)) (hla:(limbs a).length≤100000000) (hlb:(limbs b).length≤100000000) :
  Calls Tryz.prog 165 #[.slice A (limbs a).length c,.slice A' (limbs b).length c'] w (zFr w (a+b)):=by
 obtain ⟨i0,hi,hz0,hz1,hz2⟩:=info_parts Tryz.infoU64
 obtain ⟨n,hn⟩:∃ n,n=max (limbs a).length (limbs b).length:=⟨_,rfl⟩
 have hna:(limbs a).length≤n:=by omega
 have hnb:(limbs b).length≤n:=by omega
 have hn1:n≤100000000:=by omega
 have HM:=fun (m:Nat) (hm:m≤100000001)=>oH (fun W=>zZb (P:=Tryz.prog) 81 169 i0 .u64 8 Tryz.underlying81 hi hz0 hz1 hz2 m (by omega) (by omega) W)
 clear hi hz0 hz1 hz2
 have HA:=Low.limbs a
 have HB:=Low.limbs b
 have hlA:∀ i,nth (limbs a) i<1000000000:=HA.nth
 have hlB:∀ i,nth (limbs b) i<1000000000:=HB.nth
 have HLA:=oH hlA
 have HLB:=oH hlB
 clear hlA hlB
 rcases Nat.lt_or_ge (limbs a).length (limbs b).length with hle|hle
 ·have hmk:=(HM ((limbs b).length+1) (by omega)).out
  rw [Int.natCast_succ] at hmk
  have hq:n≤(limbs b).length:=by omega
  clear hn HM
  go_enter Tryz.func165,Tryz.ntmps165
  go_wp2_with fail
  clear hmk
  go_loopw [6,18] (fun cy i wr=>∃ (k cr:Nat) (os:List Nat),k≤n+1∧i = .int .i64 (k:Int)∧cr≤1∧cy = .int .u64 (cr:Int)∧zBn w wr w.heap.size os (n+1) k∧val os+cr*1000000000^k=val ((limbs a).take k)+val ((limbs b).take k)) (fun _ i _=>n+1-(intOf i).toNat)
  case atStart => 
   refine ⟨0,0,[],Nat.zero_le _,rfl,by omega,rfl,⟨rfl,Low.nil,?_,bA⟩,by simp [val]⟩
   have:n=(limbs b).length:=by omega
   subst this
   exact Row.new _ _ _ _
  case round =>
   obtain ⟨k,cr,os,hk,rfl,hcr,rfl,hfill,hv⟩:=hrel
   have HF:=oH hfill
   have HV:=oH hv
   have hax:=ha.below hfill.2.2.2
   have hbx:=hb.below hfill.2.2.2
   have HX:=oH hax
   have HY:=oH hbx
   have hsz:=hfill.2.2.2.size
   have hxk:=HLA.out k
   have hyk:=HLB.out k
   clear hfill hv hax hbx
   by_cases hlt:k<n+1
   ·have hrl:=HF.out.2.2.1
    have hll:k<(os++xHb (n+1-k)).length:=by rw [List.length_append,HF.out.1,xHc];omega
    have hcell:=hrl.cell hll
    have hfr:=hrl.frozen k
    clear hrl hll
    go_wp2_with fail
    refine (zHw _ _ _ _ _ HX.out (by omega) (by omega)).mono ?_
    rintro e w' ⟨rfl,rfl⟩
    go_wp2_with fail
    refine (zHw _ _ _ _ _ HY.out (by omega) (by omega)).mono ?_
    rintro e w' ⟨rfl,rfl⟩
    go_wp2_with fail
    go_roundw
    case rel =>
     have e1:((↑(nth (limbs a) k) + ↑(nth (limbs b) k) + ↑cr:Int))/1000000000=(((nth (limbs a) k+nth (limbs b) k+cr)/1000000000:Nat):Int):=by omega
     have e2:((↑(nth (limbs a) k) + ↑(nth (limbs b) k) + ↑cr:Int))%1000000000=(((nth (limbs a) k+nth (limbs b) k+cr)%1000000000:Nat):Int):=by omega
     rw [e1,e2]
     exact ⟨k+1,_,_,by omega,by go_num,by omega,rfl,HF.out.step hlt (by omega) (Nat.le_refl _),zHq _ _ _ _ _ HF.out.1 HV.out⟩
    case measure=>simp [intOf];omega
   ·obtain rfl:k=n+1:=by omega
    have HT:=oH (xEe HF.out (by omega) (zHp a b n cr os HF.out.1 HF.out.2.1 (by omega) (by omega) HV.out))
    rw [show n+1=(limbs b).length+1 by omega] at HT
    go_wp2_with fail
    refine HT.out.mono ?_
    rintro e w' ⟨v,rfl,hv,rfl, -⟩
    go_wp2_with fail
    go_ret
    exact ⟨_,rfl,hv,HF.out.2.2.2⟩
 ·have hmk:=(HM ((limbs a).length+1) (by omega)).out
  rw [Int.natCast_succ] at hmk
  have hq:n≤(limbs a).length:=by omega
  clear hn HM
  go_enter Tryz.func165,Tryz.ntmps165
  go_wp2_with fail
  clear hmk
  go_loopw [6,18] (fun cy i wr=>∃ (k cr:Nat) (os:List Nat),k≤n+1∧i = .int .i64 (k:Int)∧cr≤1∧cy = .int .u64 (cr:Int)∧zBn w wr w.heap.size os (n+1) k∧val os+cr*1000000000^k=val ((limbs a).take k)+val ((limbs b).take k)) (fun _ i _=>n+1-(intOf i).toNat)
  case atStart => 
   refine ⟨0,0,[],Nat.zero_le _,rfl,by omega,rfl,⟨rfl,Low.nil,?_,bA⟩,by simp [val]⟩
   have:n=(limbs a).length:=by omega
   subst this
   exact Row.new _ _ _ _
  case round =>
   obtain ⟨k,cr,os,hk,rfl,hcr,rfl,hfill,hv⟩:=hrel
   have HF:=oH hfill
   have HV:=oH hv
   have hax:=ha.below hfill.2.2.2
   have hbx:=hb.below hfill.2.2.2
   have HX:=oH hax
   have HY:=oH hbx
   have hsz:=hfill.2.2.2.size
   have hxk:=HLA.out k
   have hyk:=HLB.out k
   clear hfill hv hax hbx
   by_cases hlt:k<n+1
   ·have hrl:=HF.out.2.2.1
    have hll:k<(os++xHb (n+1-k)).length:=by rw [List.length_append,HF.out.1,xHc];omega
    have hcell:=hrl.cell hll
    have hfr:=hrl.frozen k
    clear hrl hll
    go_wp2_with fail
    refine (zHw _ _ _ _ _ HX.out (by omega) (by omega)).mono ?_
    rintro e w' ⟨rfl,rfl⟩
    go_wp2_with fail
    refine (zHw _ _ _ _ _ HY.out (by omega) (by omega)).mono ?_
    rintro e w' ⟨rfl,rfl⟩
    go_wp2_with fail
    go_roundw
    case rel =>
     have e1:((↑(nth (limbs a) k) + ↑(nth (limbs b) k) + ↑cr:Int))/1000000000=(((nth (limbs a) k+nth (limbs b) k+cr)/1000000000:Nat):Int):=by omega
     have e2:((↑(nth (limbs a) k) + ↑(nth (limbs b) k) + ↑cr:Int))%1000000000=(((nth (limbs a) k+nth (limbs b) k+cr)%1000000000:Nat):Int):=by omega
     rw [e1,e2]
     exact ⟨k+1,_,_,by omega,by go_num,by omega,rfl,HF.out.step hlt (by omega) (Nat.le_refl _),zHq _ _ _ _ _ HF.out.1 HV.out⟩
    case measure=>simp [intOf];omega
   ·obtain rfl:k=n+1:=by omega
    have HT:=oH (xEe HF.out (by omega) (zHp a b n cr os HF.out.1 HF.out.2.1 (by omega) (by omega) HV.out))
    rw [show n+1=(limbs a).length+1 by omega] at HT
    go_wp2_with fail
    refine HT.out.mono ?_
    rintro e w' ⟨v,rfl,hv,rfl, -⟩
    go_wp2_with fail
    go_ret
    exact ⟨_,rfl,hv,HF.out.2.2.2⟩
theorem xCd (A A':Option Addr) (a b c c':Nat) (w:World) (ha:zAh .u64 w A (limbs a)) (hb:zAh .u64 w A' (limbs b)) (hla:(limbs a).length≤100000000) (hab:b≤a) :
  Calls Tryz.prog 166 #[.slice A (limbs a).length c,.slice A' (limbs b).length c'] w (zFr w (a-b)):=by
 obtain ⟨i0,hi,hz0,hz1,hz2⟩:=info_parts Tryz.infoU64
 have hlb:=zQl hab
 have hmk:=fun W=>zZb (P:=Tryz.prog) 81 169 i0 .u64 8 Tryz.underlying81 hi hz0 hz1 hz2 (limbs a).length (by omega) (by omega) W
 clear hi hz0 hz1 hz2
 have HLA:=oH (show ∀ i,nth (limbs a) i<1000000000 from (Low.limbs a).nth)
 have HLB:=oH (show ∀ i,nth (limbs b) i<1000000000 from (Low.limbs b).nth)
 go_enter Tryz.func166,Tryz.ntmps166
 go_wp2_with fail
 clear hmk
 go_loopw [6,14] (fun cy i wr=>∃ (k cr:Nat) (os:List Nat),k≤(limbs a).length∧i = .int .i64 (k:Int)∧cr≤1∧cy = .int .u64 (cr:Int)∧zBn w wr w.heap.size os (limbs a).length k∧val os+val ((limbs b).take k)=val ((limbs a).take k)+cr*1000000000^k) (fun _ i _=>(limbs a).length-(intOf i).toNat)
 case atStart=>exact ⟨0,0,[],Nat.zero_le _,rfl,by omega,rfl,⟨rfl,Low.nil,Row.new _ _ _ _,bA⟩,by simp [val]⟩
 case round =>
  obtain ⟨k,cr,os,hk,rfl,hcr,rfl,hfill,hv⟩:=hrel
  have HF:=oH hfill
  have HV:=oH hv
  have HX:=oH (ha.below hfill.2.2.2)
  have HY:=oH (hb.below hfill.2.2.2)
  have hsz:=hfill.2.2.2.size
  have hxk:=HLA.out k
  have hyk:=HLB.out k
  clear hfill hv
  by_cases hlt:k<(limbs a).length
  ·have hrl:=HF.out.2.2.1
   have hll:k<(os++xHb ((limbs a).length-k)).length:=by rw [List.length_append,HF.out.1,xHc];omega
   have hcell:=hrl.cell hll
   have hfr:=hrl.frozen k
   obtain ⟨g,off,rfl,hg,hc⟩:=HX.out (by intro e;rw [e] at hlt;simp at hlt)
   have hca:=hc k hlt
   clear hrl hll hc HX ha
   go_wp2_with fail
   go_quiet ((go_at_call 187;exact zWj (zHw _ _ _ _ _ HY.out (by omega) (by omega))))
   go_wp2_with fail
   go_roundw
   case rel =>
    have e1:(1:Int)-(↑(nth (limbs a) k)+1000000000 - ↑(nth (limbs b) k) - ↑cr)/1000000000=((1-(nth (limbs a) k+1000000000-nth (limbs b) k-cr)/1000000000:Nat):Int):=by omega
    have e2:((↑(nth (limbs a) k)+1000000000 - ↑(nth (limbs b) k) - ↑cr:Int))%1000000000=(((nth (limbs a) k+1000000000-nth (limbs b) k-cr)%1000000000:Nat):Int):=by omega
    rw [e1,e2]
    exact ⟨k+1,_,_,by omega,by go_num,by omega,rfl,(HF.out.drewN _).step hlt (by omega) (Nat.le_refl _),xCe _ _ _ _ _ HF.out.1 hxk hyk hcr HV.out⟩
   case measure=>simp [intOf];omega
  ·obtain rfl:k=(limbs a).length:=by omega
   have HT:=oH (xEe HF.out (by omega) (sub_end a b cr os hab HF.out.1 HF.out.2.1 HV.out))
   go_wp2_with fail
   refine HT.out.mono ?_
   rintro e w' ⟨v,rfl,hv,rfl, -⟩
   go_wp2_with fail
   go_ret
   exact ⟨_,rfl,hv,HF.out.2.2.2⟩
def zHn (w wr:World) (g n:Nat) (r:List Nat):Prop:=r.length=n∧Low r∧Row .u64 wr g 169 r∧Below w.heap.size w wr
theorem zHn.step {w wr:World} {g n i x:Nat} {r:List Nat} (h:zHn w wr g n r) (hx:x<1000000000) (hg:w.heap.size≤g) :
  zHn w (wr.setCell ⟨g,i,none⟩ (.int .u64 (x:Int))) g n (r.set i x) :=
 ⟨by simp [h.1],h.2.1.set i hx,h.2.2.1.set i x,h.2.2.2.setCell hg _⟩
theorem zHn.fill {w wr:World} {g n:Nat} {r:List Nat} (h:zHn w wr g n r):zBn w wr g r n n :=
 ⟨h.1,h.2.1,by rw [Nat.sub_self,show xHb 0=[] from rfl,List.append_nil];exact h.2.2.1,h.2.2.2⟩
theorem zSe (A A':Option Addr) (a b c c':Nat) (w:World) (ha:zAh .u64 w A (limbs a)) (hb:zAh .u64 w A' (limbs b)) (hla:(limbs a).length≤100000000) (hlb:(limbs b).length≤100000000) :
  Calls Tryz.prog 127 #[.slice A (limbs a).length c,.slice A' (limbs b).length c'] w fun e w'=>zFr w (a*b) e w'∧e = .returned (.slice (some ⟨w.heap.size,0,none⟩) (limbs (a*b)).length ((limbs a).length+(limbs b).length)):=by
 obtain ⟨i0,hi,hz0,hz1,hz2⟩:=info_parts Tryz.infoU64
 have hmk:=fun W=>zZb (P:=Tryz.prog) 81 169 i0 .u64 8 Tryz.underlying81 hi hz0 hz1 hz2 ((limbs a).length+(limbs b).length) (by omega) (by omega) W
 rw [Int.natCast_add] at hmk
 clear hi hz0 hz1 hz2
 have HLA:=oH (show ∀ i,nth (limbs a) i<1000000000 from (Low.limbs a).nth)
 have HLB:=oH (show ∀ i,nth (limbs b) i<1000000000 from (Low.limbs b).nth)
 go_enter Tryz.func127,Tryz.ntmps127
 go_wp2_with fail
 clear hmk
 go_loopw [20] (fun ix wr=>∃ (i:Nat) (r:List Nat),i≤(limbs a).length∧ix = .int .i64 (i:Int)∧zHn w wr w.heap.size ((limbs a).length+(limbs b).length) r∧(∀ j,i+(limbs b).length≤j→nth r j=0)∧val r=val ((limbs a).take i)*b) (fun i _=>(limbs a).length-(intOf i).toNat)
 case atStart =>
  refine ⟨0,xHb ((limbs a).length+(limbs b).length),Nat.zero_le _,rfl,⟨xHc _,zQz _,Row.new _ _ _ _,bA⟩,fun j _=>?_,by rw [xFl];simp [val]⟩
  simp [nth,xHb,List.getD_eq_getElem?_getD,List.getElem?_replicate]
  split<;>rfl
 case round =>
  obtain ⟨i,r,hi,rfl,hW,hz,hv⟩:=hrel
  have HW:=oH hW
  have HZ:=oH hz
  have HV:=oH hv
  have HX:=oH (ha.below hW.2.2.2)
  have HY:=oH (hb.below hW.2.2.2)
  have hsz:=hW.2.2.2.size
  have hxk:=HLA.out i
  clear hW hz hv
  by_cases hlt:i<(limbs a).length
  ·obtain ⟨g,off,rfl,hg,hc⟩:=HX.out (by intro e;rw [e] at hlt;simp at hlt)
   have hca:=hc i hlt
   clear hc HX ha
   go_wp2_with fail
   obtain ⟨wo,rfl⟩:∃ wo:World,wo=wr:=⟨_,rfl⟩
   go_loopw [8,27] (fun cy kx wr=>∃ (k cr:Nat) (r:List Nat),k≤(limbs b).length∧kx = .int .i64 (k:Int)∧cr<1000000000∧cy = .int .u64 (cr:Int)∧zHn w wr w.heap.size ((limbs a).length+(limbs b).length) r∧(∀ j,i+(limbs b).length≤j→nth r j=0) ∧
    val r+cr*1000000000^(i+k)=val ((limbs a).take i)*b+nth (limbs a) i*1000000000^i*val ((limbs b).take k)) (fun _ k _=>(limbs b).length-(intOf k).toNat)
   case atStart=>exact ⟨0,0,r,Nat.zero_le _,rfl,by omega,rfl,HW.out,HZ.out,by rw [HV.out];simp [val]⟩
   case round =>
    obtain ⟨k,cr,r,hk,rfl,hcr,rfl,hW,hz,hv⟩:=hrel
    clear HW HZ HV HY
    have HW:=oH hW
    have HZ:=oH hz
    have HV:=oH hv
    have HY:=oH (hb.below hW.2.2.2)
    have hsz:=hW.2.2.2.size
    have hyk:=HLB.out k
    clear hW hz hv
    by_cases hlk:k<(limbs b).length
    ·obtain ⟨g',off',rfl,hg',hc'⟩:=HY.out (by intro e;rw [e] at hlk;simp at hlk)
     have hcb:=hc' k hlk
     clear hc' HY hb
     have hrl:=HW.out.2.2.1
     have hcell:=hrl.cell (i:=i+k) (by rw [HW.out.1];omega)
     have hfr:=hrl.frozen (i+k)
     have hrk:=HW.out.2.1.nth (i+k)
     have hm:(nth (limbs a) i:Int)*(nth (limbs b) k:Int)≤999999998000000001:=by
      have h1:nth (limbs a) i*nth (limbs b) k≤999999999*999999999:=Nat.mul_le_mul (by omega) (by omega)
      rw [←Int.natCast_mul];omega
     have hm0:0≤(nth (limbs a) i:Int)*(nth (limbs b) k:Int):=by rw [←Int.natCast_mul];omega
     clear hrl
     go_wp2_with fail
     go_roundw
     case rel =>
      have e0:((nth (limbs a) i:Int))*(nth (limbs b) k:Int)=((nth (limbs a) i*nth (limbs b) k:Nat):Int):=by rw [Int.natCast_mul]
      rw [e0] at hm
      rw [e0]
      have e1:((↑(nth r (i+k))+((nth (limbs a) i*nth (limbs b) k:Nat):Int) + ↑cr:Int))/1000000000=(((nth r (i+k)+nth (limbs a) i*nth (limbs b) k+cr)/1000000000:Nat):Int):=by
       generalize nth (limbs a) i*nth (limbs b) k=m;omega
      have e2:((↑(nth r (i+k))+((nth (limbs a) i*nth (limbs b) k:Nat):Int) + ↑cr:Int))%1000000000=(((nth r (i+k)+nth (limbs a) i*nth (limbs b) k+cr)%1000000000:Nat):Int):=by
       generalize nth (limbs a) i*nth (limbs b) k=m;omega
      rw [e1,e2]
      refine ⟨k+1,_,_,by omega,by go_num,?_,rfl,HW.out.step (Nat.mod_lt _ (by omega)) (Nat.le_refl _),fun j hj=>?_,?_⟩
      ·generalize nth (limbs a) i*nth (limbs b) k=m at *;omega
      ·rw [zTf (by omega)];exact HZ.out j hj
      ·rw [xFg]
       exact zSg r i k _ _ cr _ _ (by rw [HW.out.1];omega) HV.out
     case measure=>simp [intOf];omega
    ·obtain rfl:k=(limbs b).length:=by omega
     have hrl:=HW.out.2.2.1
     have hcell:=hrl.cell (i:=i+(limbs b).length) (by rw [HW.out.1];omega)
     have hfr:=hrl.frozen (i+(limbs b).length)
     have hrz:=HZ.out (i+(limbs b).length) (Nat.le_refl _)
     have hrk:nth r (i+(limbs b).length)<1000000000:=by omega
     have HRZ:=oH hrz
     clear hrl hrz
     go_wp2_with fail
     go_roundw
     case rel =>
      have e0:(nth r (i+(limbs b).length):Int)+(cr:Int)=((nth r (i+(limbs b).length)+cr:Nat):Int):=by omega
      rw [e0]
      refine ⟨i+1,_,by omega,by go_num,HW.out.step (by have:=HRZ.out;omega) (Nat.le_refl _),fun j hj=>?_,?_⟩
      ·rw [zTf (by omega)];exact HZ.out j (by omega)
      ·have h1:=HV.out
       rw [List.take_length,xEy] at h1
       rw [zSf r i cr _ _ _ _ (by rw [HW.out.1];omega) HRZ.out h1,xFg]
       grind
     case measure=>simp [intOf];omega
  ·obtain rfl:i=(limbs a).length:=by omega
   have h1:val r=a*b:=by have:=HV.out;rwa [List.take_length,xEy] at this
   have HT:=oH (xEe HW.out.fill (by omega) (show xDw r=limbs (a*b) by rw [←zQu HW.out.2.1,h1]))
   clear h1
   go_wp2_with fail
   refine HT.out.mono ?_
   rintro e w' ⟨v,rfl,hv,rfl,hve⟩
   have HVE:=oH hve
   clear hve
   go_wp2_with fail
   go_ret
   exact ⟨⟨_,rfl,hv,HW.out.2.2.2⟩,by rw [←HVE.out];rfl⟩
theorem mul_any (A A':Option Addr) (a b c c':Nat) (w:World) (ha:zAh .u64 w A (limbs a)) (hb:zAh .u64 w A' (limbs b)) (hla:(limbs a).length≤100000000) (hlb:(limbs b).length≤100000000) :
  Calls Tryz.prog 127 #[.slice A (limbs a).length c,.slice A' (limbs b).length c'] w (zFr w (a*b)) :=
 (zSe A A' a b c c' w ha hb hla hlb).mono fun _ _ h=>h.1
theorem zHn.drew {w wr:World} {g n:Nat} {r:List Nat} (h:zHn w wr g n r):zHn w wr.drew g n r:=⟨h.1,h.2.1,h.2.2.1,h.2.2.2.drew⟩
theorem xAi (A:Option Addr) (a d c:Nat) (w:World) (ha:zAh .u64 w A (limbs a)) (hla:(limbs a).length≤100000000) (hd0:0<d) (hd1:d<1000000000) :
  Calls Tryz.prog 185 #[.slice A (limbs a).length c,.int .u64 d] w fun e w'=>∃ v,e = .returned (.tuple #[v,.int .u64 ((a%d:Nat):Int)])∧zCe w' v (a/d)∧Below w.heap.size w w':=by
 obtain ⟨i0,hi,hz0,hz1,hz2⟩:=info_parts Tryz.infoU64
 have hmk:=fun W=>zZb (P:=Tryz.prog) 81 169 i0 .u64 8 Tryz.underlying81 hi hz0 hz1 hz2 (limbs a).length (by omega) (by omega) W
 clear hi hz0 hz1 hz2
 have HLA:=oH (show ∀ i,nth (limbs a) i<1000000000 from (Low.limbs a).nth)
 go_enter Tryz.func185,Tryz.ntmps185
 go_wp2_with fail
 clear hmk
 go_loopw [7,8] (fun re ix wr=>∃ (k rest:Nat) (r:List Nat),k≤(limbs a).length∧ix = .int .i64 ((k:Int)-1)∧rest<d∧re = .int .u64 (rest:Int)∧zHn w wr w.heap.size (limbs a).length r∧d*val (r.drop k)+rest=val ((limbs a).drop k)) (fun _ i _=>(intOf i+1).toNat)
 case atStart =>
  refine ⟨(limbs a).length,0,xHb (limbs a).length,Nat.le_refl _,rfl,hd0,rfl,⟨xHc _,zQz _,Row.new _ _ _ _,bA⟩,?_⟩
  rw [List.drop_length,List.drop_eq_nil_of_le (by rw [xHc];omega)];rfl
 case round =>
  obtain ⟨k,rest,r,hk,rfl,hrd,rfl,hW,hv⟩:=hrel
  have HW:=oH hW
  have HV:=oH hv
  have HX:=oH (ha.below hW.2.2.2)
  have hsz:=hW.2.2.2.size
  clear hW hv
  rcases Nat.eq_zero_or_pos k with h0|h0
  ·subst h0
   have h1:=HV.out
   rw [List.drop_zero,List.drop_zero,xEy] at h1
   have h2:=xAj a d rest r hrd HW.out.2.1 h1
   have HT:=oH (xEe HW.out.fill (by omega) h2.1)
   have HE:=oH h2.2
   clear h1 h2
   go_wp2_with fail
   refine HT.out.mono ?_
   rintro e w' ⟨v,rfl,hv,rfl, -⟩
   go_wp2_with fail
   go_ret2
   exact ⟨v,by rw [←HE.out];rfl,hv,HW.out.2.2.2⟩
  ·obtain ⟨j,rfl⟩:∃ j,k=j+1:=⟨k-1,by omega⟩
   obtain ⟨g,off,rfl,hg,hc⟩:=HX.out (by intro e;rw [e] at hk;simp at hk)
   have hca:=hc j (by omega)
   have hxk:=HLA.out j
   have hrl:=HW.out.2.2.1
   have hcell:=hrl.cell (i:=j) (by rw [HW.out.1];omega)
   have hfr:=hrl.frozen j
   clear hc hrl ha HX
   go_wp2_with fail
   go_region
   go_wp2_with fail
   go_roundw
   case rel =>
    have e1:((rest:Int)*1000000000+(nth (limbs a) j:Int))%(d:Int)=(((rest*1000000000+nth (limbs a) j)%d:Nat):Int):=by simp
    have e2:((rest:Int)*1000000000+(nth (limbs a) j:Int))/(d:Int)=(((rest*1000000000+nth (limbs a) j)/d:Nat):Int):=by simp
    rw [e1,e2]
    exact ⟨j,_,_,by omega,by go_num,Nat.mod_lt _ hd0,rfl,(HW.out.step (xAk hrd hxk) (Nat.le_refl _)).drew,xAl _ _ _ _ _ (by rw [HW.out.1];omega) hd0 HV.out⟩
   case measure=>simp [intOf]
theorem zUh {a w:World} {row:Option Nat} (h:a.grownBy w row) (n:Nat):a.grownBy (w.drewN n) row:=⟨h.os,h.tape,h.output,h.size,h.block⟩
theorem zUi {a w:World} {g:Nat} (h:a.grownBy w (some g)) {p:Addr} (hp:p.block=g∨a.heap.size≤p.block) (u:Value):a.grownBy (w.setCell p u) (some g) :=
 ⟨h.os,h.tape,h.output,by simpa [World.setCell] using h.size,fun i hi hne=>(Below.heap_setCell w p u i (by
  rintro rfl
  rcases hp with hp|hp
  ·exact hne (by rw [hp])
  ·omega)).trans (h.block i hi hne)⟩
def Off (g:Nat) (A:Option Addr):Prop:=∀ b off,A=some ⟨b,off,none⟩→b≠g
theorem zAh.only {k:IntKind} {w w':World} {A:Option Addr} {xs:List Nat} {g:Nat} (h:zAh k w A xs) (hb:w.grownBy w' (some g)) (ho:Off g A):zAh k w' A xs:=fun hn=>by
 obtain ⟨b,off,e,hlt,hc⟩:=h hn
 have:=hb.size
 exact ⟨b,off,e,by omega,fun i hi=>(World.cell?_of_block (w:=w) (a:=⟨b,off+i,none⟩) (hb.block b hlt (fun e'=>ho b off e (by injection e')))).trans (hc i hi)⟩
theorem zSy (xs ys:List Nat) (i:Nat):nth (xs++ys) (xs.length+i)=nth ys i:=by
 simp [nth,List.getD_eq_getElem?_getD,List.getElem?_append_right]
theorem zSx {xs ys:List Nat} {i:Nat} (h:i<xs.length):nth (xs++ys) i=nth xs i:=by
 simp [nth,List.getD_eq_getElem?_getD,List.getElem?_append_left h]
theorem Row.mid {k:IntKind} {w:World} {g:Nat} {t:TypeId} {pre us post:List Nat} {o i:Nat} (h:Row k w g t (pre++(us++post))) (ho:pre.length=o) (hi:i<us.length):w.cell? ⟨g,o+i,none⟩=some (.int k ((nth us i:Nat):Int)):=by
 have:=h.cell (i:=o+i) (by simp;omega)
 rw [this,←ho,zSy,zSx hi]
theorem Row.mid_set {k:IntKind} {w:World} {g:Nat} {t:TypeId} {pre us post:List Nat} {o i:Nat} (h:Row k w g t (pre++(us++post))) (ho:pre.length=o) (hi:i<us.length) (x:Nat) :
  Row k (w.setCell ⟨g,o+i,none⟩ (.int k (x:Int))) g t (pre++(us.set i x++post)):=by
 have:=h.set (o+i) x
 rw [←ho,List.set_append_right _ _ (by omega),Nat.add_sub_cancel_left,List.set_append_left _ _ hi] at this
 rw [←ho];exact this
def Away (w wr:World) (g:Nat) (pre us post vs:List Nat) (q k bo:Nat) (os:List Nat):Prop :=
 os.length=k∧Low os∧Row .u64 wr g 169 (pre++((os++us.drop k)++post))∧w.grownBy wr (some g)∧val (us.take k)+bo*1000000000^k=val os+q*val (vs.take k)
theorem zZt (os us:List Nat) (k x:Nat) (hk:os.length=k) (hu:k<us.length):(os++us.drop k).set k x=(os++[x])++us.drop (k+1):=by
 rw [List.drop_eq_getElem_cons hu,List.set_append_right _ _ (by omega),hk,Nat.sub_self,List.set_cons_zero]
 simp
theorem zTe (os us:List Nat) (k:Nat) (hk:os.length=k):nth (os++us.drop k) k=nth us k:=by
 have:=zSy os (us.drop k) 0
 rw [hk,Nat.add_zero] at this
 rw [this];simp [nth]
theorem Away.step {w wr w2:World} {g q k bo:Nat} {pre us post vs os:List Nat} (h:Away w wr g pre us post vs q k bo os) (hk:k<us.length) (x bo':Nat) (hx:x<1000000000)
  (hrow:Row .u64 w2 g 169 (pre++(((os++us.drop k).set k x)++post))) (hg:w.grownBy w2 (some g)) (hb:nth us k+bo'*1000000000=x+q*nth vs k+bo):Away w w2 g pre us post vs q (k+1) bo' (os++[x]):=by
 obtain ⟨h1,h2,h3,h4,h5⟩:=h
 refine ⟨by simp [h1],h2.snoc hx,?_,hg,xDj os us vs k q bo _ _ h1 rfl rfl h5 x bo' hb⟩
 rw [zZt os us k x h1 hk] at hrow
 exact hrow
theorem Away.lt {w wr:World} {g o q k bo:Nat} {pre us post vs os:List Nat} (h:Away w wr g pre us post vs q k bo os) (ho:pre.length=o) (hk:k<us.length) (hu:nth us k<1000000000) (hc:nth us k<(q*nth vs k+bo)%1000000000) :
  Away w ((wr.setCell ⟨g,o+k,none⟩ (.int .u64 ((nth us k:Int)+1000000000))).setCell ⟨g,o+k,none⟩ (.int .u64 ((nth us k:Int)+1000000000-((q:Int)*(nth vs k:Int)+(bo:Int))%1000000000)))
   g pre us post vs q (k+1) ((q*nth vs k+bo)/1000000000+1) (os++[nth us k+1000000000-(q*nth vs k+bo)%1000000000]):=by
 have hl:k<(os++us.drop k).length:=by have:=h.1;simp;omega
 have e1:(nth us k:Int)+1000000000=((nth us k+1000000000:Nat):Int):=by omega
 have e2:((nth us k+1000000000:Nat):Int)-((q:Int)*(nth vs k:Int)+(bo:Int))%1000000000=((nth us k+1000000000-(q*nth vs k+bo)%1000000000:Nat):Int):=by
  rw [←Int.natCast_mul];generalize q*nth vs k=p at *;omega
 rw [e1,e2]
 have h1:=h.2.2.1.mid_set ho hl (nth us k+1000000000)
 have h2:=h1.mid_set (i:=k) ho (by simpa using hl) (nth us k+1000000000-(q*nth vs k+bo)%1000000000)
 rw [List.set_set] at h2
 exact h.step hk _ _ (by omega) h2 (zUi (zUi h.2.2.2.1 (.inl rfl) _) (.inl rfl) _) (by generalize q*nth vs k=p at *;omega)
theorem Away.ge {w wr:World} {g o q k bo:Nat} {pre us post vs os:List Nat} (h:Away w wr g pre us post vs q k bo os) (ho:pre.length=o) (hk:k<us.length) (hu:nth us k<1000000000) (hc:¬nth us k<(q*nth vs k+bo)%1000000000) :
  Away w (wr.setCell ⟨g,o+k,none⟩ (.int .u64 ((nth us k:Int)-((q:Int)*(nth vs k:Int)+(bo:Int))%1000000000)))
   g pre us post vs q (k+1) ((q*nth vs k+bo)/1000000000) (os++[nth us k-(q*nth vs k+bo)%1000000000]):=by
 have hl:k<(os++us.drop k).length:=by have:=h.1;simp;omega
 have e2:(nth us k:Int)-((q:Int)*(nth vs k:Int)+(bo:Int))%1000000000=((nth us k-(q*nth vs k+bo)%1000000000:Nat):Int):=by
  rw [←Int.natCast_mul];generalize q*nth vs k=p at *;omega
 rw [e2]
 exact h.step hk _ _ (by omega) (h.2.2.1.mid_set ho hl _) (zUi h.2.2.2.1 (.inl rfl) _) (by generalize q*nth vs k=p at *;omega)
def Back (w wr:World) (g:Nat) (pre xs post vs:List Nat) (k ca:Nat) (os:List Nat):Prop :=
 os.length=k∧Low os∧Row .u64 wr g 169 (pre++((os++xs.drop k)++post))∧w.grownBy wr (some g)∧val os+ca*1000000000^k=val (xs.take k)+val (vs.take k)
theorem Back.step {w wr:World} {g o k ca:Nat} {pre xs post vs os:List Nat} (h:Back w wr g pre xs post vs k ca os) (ho:pre.length=o) (hk:k<xs.length) :
  Back w (wr.setCell ⟨g,o+k,none⟩ (.int .u64 (((nth xs k+nth vs k+ca)%1000000000:Nat):Int))) g pre xs post vs (k+1) ((nth xs k+nth vs k+ca)/1000000000) (os++[(nth xs k+nth vs k+ca)%1000000000]):=by
 have hl:k<(os++xs.drop k).length:=by have:=h.1;simp;omega
 have h1:=h.2.2.1.mid_set ho hl ((nth xs k+nth vs k+ca)%1000000000)
 rw [zZt os xs k _ h.1 hk] at h1
 exact ⟨by simp [h.1],h.2.1.snoc (Nat.mod_lt _ (by omega)),h1,zUi h.2.2.2.1 (.inl rfl) _,zHq xs vs os k ca h.1 h.2.2.2.2⟩
theorem val_last (us:List Nat) (n:Nat) (h:us.length=n+1):val us=val (us.take n)+nth us n*1000000000^n:=by
 have:=xFe us n
 rw [h,Nat.min_eq_left (by omega),xEw us n,List.drop_eq_nil_of_le (by omega),xFb] at this
 rw [this];grind
theorem last_set (os us:List Nat) (n x:Nat) (ho:os.length=n) (h:us.length=n+1):(os++us.drop n).set n x=os++[x]:=by
 rw [zZt os us n x ho (by omega),List.drop_eq_nil_of_le (by omega),List.append_nil]
theorem zXd {a b:Int} (h:a=b):Ending.returned (.int .u64 a) = .returned (.int .u64 b):=by rw [h]
theorem step_end {w w2:World} {g n U V x:Nat} {pre os us post:List Nat} (hrow:Row .u64 w2 g 169 (pre++((os++us.drop n).set n x++post))) (hg:w.grownBy w2 (some g)) (ho:os.length=n) (hu:us.length=n+1) (hlow:Low os) (hx:x<1000000000) (hv:val os+x*1000000000^n=U%V) :
  ∃ us',Row .u64 w2 g 169 (pre++(us'++post))∧us'.length=n+1∧Low us'∧val us'=U%V∧w.grownBy w2 (some g):=by
 rw [last_set os us n x ho hu] at hrow
 refine ⟨os++[x],hrow,by simp [ho],hlow.snoc hx,?_,hg⟩
 rw [xFd,ho,Nat.mul_comm,hv]
theorem Low.of_val {os:List Nat} {k:Nat} (h:Low os) (hl:os.length=k):val os<1000000000^k:=by rw [←hl];exact xEz h
theorem step_any (g o n c c':Nat) (A':Option Addr) (pre us post vs:List Nat) (w:World) (hrow:Row .u64 w g 169 (pre++(us++post))) (ho:pre.length=o) (hul:us.length=n+3) (hvl:vs.length=n+2)
  (hu:Low us) (hv:Low vs) (hc:zAh .u64 w A' vs) (hoff:Off g A') (hn:n≤1000000000) (htop:0<nth vs (n+1)) (hlt:val us<1000000000*val vs) :
  Calls Tryz.prog 186 #[.slice (some ⟨g,o,none⟩) (n+3) c,.slice A' (n+2) c'] w fun e w'=>∃ us',e = .returned (.int .u64 ((val us/val vs:Nat):Int)) ∧
   Row .u64 w' g 169 (pre++(us'++post))∧us'.length=n+3∧Low us'∧val us'=val us%val vs∧w.grownBy w' (some g):=by
 have hT:zHf (val us) (val vs) (1000000000^n) (nth vs (n+1)) (nth vs n) (val (vs.take n)) (nth us (n+2)*1000000000+nth us (n+1)) (nth us n) (val (us.take n)) :=
  ⟨xFh vs n hvl,val_top3 us n hul,by have:=xEz (hv.take n);rwa [List.length_take,Nat.min_eq_left (by omega)] at this,by have:=xEz (hu.take n);rwa [List.length_take,Nat.min_eq_left (by omega)] at this,hv.nth _,hu.nth _,htop,hlt⟩
 obtain ⟨b,off,rfl,hb,hcv⟩:=hc (by intro e;rw [e] at hvl;simp at hvl)
 have hu0:=hrow.mid (i:=n+2) ho (by omega)
 have hu1:=hrow.mid (i:=n+1) ho (by omega)
 have hu2:=hrow.mid (i:=n) ho (by omega)
 have hv1:=hcv (n+1) (by omega)
 have hv2:=hcv n (by omega)
 have bu0:=hu.nth (n+2)
 have bu1:=hu.nth (n+1)
 have bu2:=hu.nth n
 have bv1:=hv.nth (n+1)
 have bv2:=hv.nth n
 have HT:=oH hT
 have HC:=oH hcv
 have HO:=oH ho
 have HUL:=oH hul
 have HVL:=oH hvl
 clear hT hcv hc ho hul hvl
 go_enter Tryz.func186,Tryz.ntmps186
 go_wp2_with fail
 go_quiet (fail)
 go_wp2_with fail
 go_quiet (fail)
 go_wp2_with fail
 go_loopw [7,8] (fun qx rx wr=>∃ (q r m:Nat),qx = .int .u64 (q:Int)∧rx = .int .u64 (r:Int)∧q≤1000000000000000000∧r≤2000000000∧wr=w.drewN m∧val us<(q+1)*val vs∧q*nth vs (n+1)+r=nth us (n+2)*1000000000+nth us (n+1)) (fun q _ _=>(intOf q).toNat)
 case atStart =>
  refine ⟨(nth us (n+2)*1000000000+nth us (n+1))/nth vs (n+1),(nth us (n+2)*1000000000+nth us (n+1))%nth vs (n+1),_,by simp,by simp,?_,?_,by rw [World.drewN_drewN],HT.out.init ?_,?_⟩
  ·exact Nat.le_trans (Nat.div_le_self _ _) (by omega)
  ·have:=Nat.mod_lt (nth us (n+2)*1000000000+nth us (n+1)) htop;omega
  ·have:=Nat.lt_mul_div_succ (nth us (n+2)*1000000000+nth us (n+1)) htop;rwa [Nat.mul_comm (nth vs (n+1))] at this
  ·rw [Nat.mul_comm ((nth us (n+2)*1000000000+nth us (n+1))/nth vs (n+1))];exact Nat.div_add_mod _ _
 case round =>
  obtain ⟨q,r,m,rfl,rfl,hq,hr,rfl,h1,h2⟩:=hrel
  have H1:=oH h1
  have H2:=oH h2
  clear h1 h2
  have hm:q<1000000000→(q:Int)*(nth vs n:Int)≤999999998000000001:=fun h=>by
   have h1:q*nth vs n≤999999999*999999999:=Nat.mul_le_mul (by omega) (by omega)
   rw [←Int.natCast_mul];omega
  have hm0:0≤(q:Int)*(nth vs n:Int):=by rw [←Int.natCast_mul];omega
  have hcases:(r<1000000000∧1000000000≤q)∨(r<1000000000∧q<1000000000∧r*1000000000+nth us n<q*nth vs n) ∨
    ((q<1000000000∧q*val vs≤val us+val vs)∧(decide ((r:Int)<1000000000)=false∨(decide ((r:Int)<1000000000)=true∧decide ((1000000000:Int)≤(q:Int))=false∧decide ((r:Int)*1000000000+(nth us n:Int)<(q:Int)*(nth vs n:Int))=false))):=by
   by_cases c1:r<1000000000
   ·by_cases c2:q<1000000000
    ·by_cases c3:r*1000000000+nth us n<q*nth vs n
     ·exact .inr (.inl ⟨c1,c2,c3⟩)
     ·exact .inr (.inr ⟨⟨c2,HT.out.exit_small H2.out c2 (by omega)⟩,.inr ⟨by simp;omega,by simp;omega,by rw [←Int.natCast_mul];simp;omega⟩⟩)
    ·exact .inl ⟨c1,by omega⟩
   ·exact .inr (.inr ⟨⟨HT.out.q_lt H2.out (by omega),HT.out.exit_big H2.out (by omega)⟩,.inl (by simp;omega)⟩)
  rcases hcases with ⟨c1,c2⟩|⟨c1,c2,c3⟩|⟨⟨hqB,hqV⟩,hcc⟩
  ·have d1:decide ((r:Int)<1000000000)=true:=by simp;omega
   have d2:decide ((1000000000:Int)≤(q:Int))=true:=by simp;omega
   go_wp2_with fail
   go_quiet (fail)
   go_wp2_with fail
   go_roundw
   case rel =>
    refine ⟨q-1,r+nth vs (n+1),_,?_,by simp,by omega,by omega,rfl,?_,?_⟩
    ·rw [Int.natCast_sub (by omega)];rfl
    ·have:=HT.out.dec_big c2;rwa [Nat.sub_add_cancel (by omega)]
    ·have:=H2.out
     obtain ⟨p,rfl⟩:∃ p,q=p+1:=⟨q-1,by omega⟩
     rw [Nat.add_sub_cancel]
     rw [Nat.add_mul] at this
     omega
   case measure=>simp [intOf];omega
  ·have d1:decide ((r:Int)<1000000000)=true:=by simp;omega
   have d2:decide ((1000000000:Int)≤(q:Int))=false:=by simp;omega
   have d3:decide ((r:Int)*1000000000+(nth us n:Int)<(q:Int)*(nth vs n:Int))=true:=by rw [←Int.natCast_mul];simp;omega
   have hm:=hm c2
   have hq0:0<q:=by rcases Nat.eq_zero_or_pos q with e|e;(subst e;omega);exact e
   have C3:=oH c3
   clear c3
   go_wp2_with fail
   go_quiet (fail)
   go_wp2_with fail
   go_roundw
   case rel =>
    refine ⟨q-1,r+nth vs (n+1),_,?_,by simp,by omega,by omega,rfl,?_,?_⟩
    ·rw [Int.natCast_sub (by omega)];rfl
    ·have:=HT.out.dec H2.out C3.out;rwa [Nat.sub_add_cancel (by omega)]
    ·have:=H2.out
     obtain ⟨p,rfl⟩:∃ p,q=p+1:=⟨q-1,by omega⟩
     rw [Nat.add_sub_cancel]
     rw [Nat.add_mul] at this
     omega
   case measure=>simp [intOf];omega
  ·have hm':=hm hqB
   clear hm
   have HQV:=oH hqV
   have HLT:=oH hlt
   clear hqV hlt
   rcases hcc with d1|⟨d1,d2,d3⟩
   all_goals (
    go_wp2_with fail
    go_quiet (fail)
    go_wp2_with fail)
   all_goals (
    clear hm' hm0 hu0 hu1 hu2 hv1 hv2 bu0 bu1 bu2 bv1 bv2 H2 HT d1
    try clear d2 d3
    go_loopw [9,80] (fun bx ix wr=>∃ (k bo:Nat) (os:List Nat),k≤n+2∧ix = .int .i64 (k:Int)∧bo≤1000000000∧bx = .int .u64 (bo:Int)∧Away w wr g pre us post vs q k bo os) (fun _ i _=>n+2-(intOf i).toNat)
    case atStart=>exact ⟨0,0,[],Nat.zero_le _,rfl,by omega,rfl,rfl,Low.nil,by simpa using hrow.drewN _,zUh (World.grownBy.refl _ _) _,by simp [val]⟩
    case round =>
     obtain ⟨k,bo,os,hk,rfl,hbo,rfl,hA⟩:=hrel
     have HA:=oH hA
     have hgs:=hA.2.2.2.1.size
     clear hA
     by_cases hlk:k<n+2
     ·have hcv:=(World.grownBy.cell HA.out.2.2.2.1 (HC.out k (by rw [HVL.out];omega)) (fun e=>hoff b off rfl (by injection e)))
      have hul:k<(os++us.drop k).length:=by have:=HUL.out;have:=HA.out.1;simp;omega
      have hcu:=HA.out.2.2.1.mid (i:=k) HO.out hul
      rw [zTe os us k HA.out.1] at hcu
      have hfr:=HA.out.2.2.1.frozen (o+k)
      have bx:=hu.nth k
      have by_:=hv.nth k
      have hm:(q:Int)*(nth vs k:Int)≤999999998000000001:=by
       have h1:q*nth vs k≤999999999*999999999:=Nat.mul_le_mul (by omega) (by omega)
       rw [←Int.natCast_mul];omega
      have hm0:0≤(q:Int)*(nth vs k:Int):=by rw [←Int.natCast_mul];omega
      have HUK:=oH hul
      clear hul
      by_cases hlow:(nth us k:Int)<((q:Int)*(nth vs k:Int)+(bo:Int))%1000000000
      ·go_wp2_with fail
       go_roundw
       case rel =>
        refine ⟨k+1,(q*nth vs k+bo)/1000000000+1,_,by omega,by go_num,?_,by simp,HA.out.lt HO.out (by have:=HUL.out;omega) bx ?_⟩
        ·rw [←Int.natCast_mul] at hm;generalize q*nth vs k=p at *;omega
        ·rw [←Int.natCast_mul] at hlow;generalize q*nth vs k=p at *;omega
       case measure=>simp [intOf];omega
      ·go_wp2_with fail
       go_roundw
       case rel =>
        refine ⟨k+1,(q*nth vs k+bo)/1000000000,_,by omega,by go_num,?_,by simp,HA.out.ge HO.out (by have:=HUL.out;omega) bx ?_⟩
        ·rw [←Int.natCast_mul] at hm;generalize q*nth vs k=p at *;omega
        ·rw [←Int.natCast_mul] at hlow;generalize q*nth vs k=p at *;omega
       case measure=>simp [intOf];omega
     ·obtain rfl:k=n+2:=by omega
      have hxl:(os++us.drop (n+2)).length=n+3:=by have:=HUL.out;have:=HA.out.1;simp;omega
      have hcu:=HA.out.2.2.1.mid (i:=n+2) HO.out (by omega)
      rw [zTe os us (n+2) HA.out.1] at hcu
      have hfr:=HA.out.2.2.1.frozen (o+(n+2))
      have bx:=hu.nth (n+2)
      have HXL:=oH hxl
      clear hxl hrow
      have hUv:=val_last us (n+2) HUL.out
      have hAv:=HA.out.2.2.2.2
      rw [List.take_of_length_le (l:=vs) (by rw [HVL.out];omega)] at hAv
      have HUV:=oH hUv
      have HAV:=oH hAv
      clear hUv hAv
      by_cases hge:bo≤nth us (n+2)
      ·have hR:=xBn H1.out HUV.out (val os) HAV.out hge
       have HR:=oH hR
       clear hR
       go_wp2_with fail
       go_ret
       have e:(nth us (n+2):Int)-(bo:Int)=((nth us (n+2)-bo:Nat):Int):=by omega
       rw [e]
       obtain ⟨us',h1,h2,h3,h4,h5⟩:=step_end (n:=n+2) (HA.out.2.2.1.mid_set HO.out (by rw [HXL.out];omega) (nth us (n+2)-bo)) (zUi HA.out.2.2.2.1 (.inl rfl) _) HA.out.1 HUL.out HA.out.2.1 (by omega) HR.out.2
       exact ⟨us',by rw [←HR.out.1];rfl,h1,h2,h3,h4,h5⟩
      ·go_wp2_with fail
       obtain ⟨wo,hwo⟩:∃ wo:World,wo=wr:=⟨_,rfl⟩
       go_loopw [14,132] (fun cx ix wr=>∃ (k ca:Nat) (os2:List Nat),k≤n+2∧ix = .int .i64 (k:Int)∧ca≤1∧cx = .int .u64 (ca:Int)∧Back w wr g pre (os++us.drop (n+2)) post vs k ca os2) (fun _ i _=>n+2-(intOf i).toNat)
       case atStart=>exact ⟨0,0,[],Nat.zero_le _,rfl,by omega,rfl,rfl,Low.nil,by simpa using HA.out.2.2.1,HA.out.2.2.2.1,by simp [val]⟩
       case round =>
        obtain ⟨k,ca,os2,hk,rfl,hca,rfl,hB⟩:=hrel
        have HB:=oH hB
        clear hB hcu hfr
        by_cases hlk:k<n+2
        ·have hcv:=(World.grownBy.cell HB.out.2.2.2.1 (HC.out k (by rw [HVL.out];omega)) (fun e=>hoff b off rfl (by injection e)))
         have hul:k<(os2++(os++us.drop (n+2)).drop k).length:=by have:=HXL.out;have:=HB.out.1;rw [List.length_append,List.length_drop];omega
         have hcu:=HB.out.2.2.1.mid (i:=k) HO.out hul
         rw [zTe os2 _ k HB.out.1,zSx (by rw [HA.out.1];omega)] at hcu
         have hfr:=HB.out.2.2.1.frozen (o+k)
         have bx:=HA.out.2.1.nth k
         have by_:=hv.nth k
         clear hul
         go_wp2_with fail
         go_roundw
         case rel =>
          have hS:=HB.out.step HO.out (by rw [HXL.out];omega)
          rw [zSx (by rw [HA.out.1];omega)] at hS
          have e1:((nth os k:Int)+(nth vs k:Int)+(ca:Int))/1000000000=(((nth os k+nth vs k+ca)/1000000000:Nat):Int):=by omega
          have e2:((nth os k:Int)+(nth vs k:Int)+(ca:Int))%1000000000=(((nth os k+nth vs k+ca)%1000000000:Nat):Int):=by omega
          rw [e1,e2]
          exact ⟨k+1,_,_,by omega,by go_num,by omega,rfl,hS⟩
         case measure=>simp [intOf];omega
        ·obtain rfl:k=n+2:=by omega
         have hul:n+2<(os2++(os++us.drop (n+2)).drop (n+2)).length:=by have:=HXL.out;have:=HB.out.1;rw [List.length_append,List.length_drop];omega
         have hcu:=HB.out.2.2.1.mid (i:=n+2) HO.out hul
         rw [zTe os2 _ (n+2) HB.out.1,zTe os us (n+2) HA.out.1] at hcu
         have hfr:=HB.out.2.2.1.frozen (o+(n+2))
         have hbv:=HB.out.2.2.2.2
         rw [List.take_of_length_le (l:=vs) (by rw [HVL.out];omega),List.take_append_of_le_length (by rw [HA.out.1];omega),List.take_of_length_le (by rw [HA.out.1];omega)] at hbv
         have hV0:0<val vs:=by rcases Nat.eq_zero_or_pos (val vs) with e|e;(have:=HLT.out;rw [e] at this;omega);exact e
         have hS:=xBl HQV.out HUV.out (val os) (HA.out.2.1.of_val HA.out.1) HAV.out (by omega) (val os2) ca (HB.out.2.1.of_val HB.out.1) (hv.of_val HVL.out) hV0 hbv
         obtain ⟨hq0,hS1,hS2,hS3⟩:=hS
         have HS1:=oH hS1
         have HS2:=oH hS2
         have HS3:=oH hS3
         have HUL2:=oH hul
         clear hbv hV0 hS1 hS2 hS3 hul
         have hst:IntKind.u64.wrap ((nth us (n+2):Int)+IntKind.u64.wrap ((ca:Int)-(bo:Int)))=0:=by
          have:=HS3.out
          rw [IntKind.wrap_u64,IntKind.wrap_u64];omega
         go_wp2_with fail
         go_ret
         obtain ⟨us',h1,h2,h3,h4,h5⟩:=step_end (n:=n+2) (HB.out.2.2.1.mid_set HO.out HUL2.out 0) (zUi HB.out.2.2.2.1 (.inl rfl) _) HB.out.1 HXL.out HB.out.2.1 (by omega) (by rw [Nat.zero_mul,Nat.add_zero];exact HS2.out)
         have e:(q:Int)-1=((val us/val vs:Nat):Int):=by rw [←HS1.out];omega
         exact ⟨us',zXd e,h1,h2,h3,h4,h5⟩)
end Go.Proofs.YtfjjcoggoomlbaaGreatDoor
