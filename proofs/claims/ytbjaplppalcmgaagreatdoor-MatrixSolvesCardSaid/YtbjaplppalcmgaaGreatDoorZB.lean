import Derived.Test.YtbjaplppalcmgaaGreatDoorProg
import Derived.Test.YtbjaplppalcmgaaGreatDoorZA
import Derived.WalkSpells
import Derived.WalkLawsBesides
import Derived.BigQuiet
import Derived.Deep.DeepCutAuto
import Derived.Deep.RegionHeld3
import Derived.Laws.AppendOwnNone
import Derived.Deep.AppendLies
import Derived.StillTail
set_option maxHeartbeats 16000000
set_option maxRecDepth 100000
set_option linter.unusedVariables false
set_option linter.unusedSimpArgs false
set_option linter.unusedSectionVars false
namespace Go.Proofs.YtbjaplppalcmgaaGreatDoor
open Go.RowKit
def zAe (k:IntKind) (w:World) (A:oAx) (xs:List Nat):Prop :=
 xs≠[]->∃ b off,A=some ⟨b,off,none⟩/\b<w.heap.size/\∀ i,i<xs.length->w.cell? ⟨b,off+i,none⟩=some (.int k ((nth xs i:Nat):Int))
theorem zAe.nil (k:IntKind) (w:World) (A:oAx):zAe k w A []:=fun h=>absurd rfl h
theorem zAe.keep {k:IntKind} {w w':World} {A:oAx} {xs:List Nat} (h:zAe k w A xs) (hs:w.heap.size<=w'.heap.size) (hk:∀ p:Addr,p.block<w.heap.size->w'.cell? p=w.cell? p):zAe k w' A xs:=fun hn=>by
 obtain ⟨b,off,e,hb,hc⟩:=h hn;exact ⟨b,off,e,oMx,fun i hi=>(hk _ hb).trans (hc i hi)⟩
theorem zAe.below {k:IntKind} {w w':World} {A:oAx} {xs:List Nat} (h:zAe k w A xs) (hb:Below w.heap.size w w'):zAe k w' A xs:=h.keep hb.size fun _ hp=>hb.cell hp
theorem zAe.drew {k:IntKind} {w:World} {A:oAx} {xs:List Nat} (h:zAe k w A xs):zAe k w.drew A xs:=h
theorem zAe.drewN {k:IntKind} {w:World} {A:oAx} {xs:List Nat} (h:zAe k w A xs) (n:Nat):zAe k (w.drewN n) A xs:=h
theorem zAe.take {k:IntKind} {w:World} {A:oAx} {xs:List Nat} (h:zAe k w A xs) (n:Nat):zAe k w A (xs.take n):=fun hn=>by
 obtain ⟨b,off,e,hb,hc⟩:=h (fun e=>hn (by rw [e];simp));refine ⟨b,off,e,hb,fun i hi=>?_⟩;rw [hc i (by simp at hi;omega)];rw [nth_take (by simp at hi;omega)]
def rowOf (k:IntKind) (xs:List Nat):Array Value:=(xs.map fun x:Nat=>Value.int k (x:Int)).toArray
theorem zWq {k:IntKind} {xs:List Nat} {i:Nat} (h:i<xs.length):(rowOf k xs)[i]? = some (.int k ((nth xs i:Nat):Int)):=by
 simp [rowOf,nth,h]
theorem zWr (k:IntKind) (xs:List Nat) (i x:Nat):(rowOf k xs).setIfInBounds i (.int k (x:Int))=rowOf k (xs.set i x):=by
 simp [rowOf,List.map_set]
def Row (k:IntKind) (w:World) (g:Nat) (t:TypeId) (xs:List Nat):Prop:=w.heap[g]? = some (.cells (rowOf k xs) t (0,0))
section
variable {k:IntKind} {w w':World} {g:Nat} {t:TypeId} {xs:List Nat}
theorem Row.lt (h:Row k w g t xs):g<w.heap.size:=by
 rcases Nat.lt_or_ge g w.heap.size with hlt|hge
 ·exact hlt
 unfold Row at h;rw [Array.getElem?_eq_none hge] at h;cases h
theorem Row.cell (h:Row k w g t xs) {i:Nat} (hi:i<xs.length):w.cell? ⟨g,i,none⟩=some (.int k ((nth xs i:Nat):Int)):=(cell_of_row w g i _ t (0,0) h).trans (zWq hi)
theorem Row.frozen (h:Row k w g t xs) (i:Nat):w.frozen? ⟨g,i,none⟩=false:=by
 unfold Row at h
 simp [World.frozen?,h]
theorem Row.new (k:IntKind) (w:World) (t:TypeId) (xs:List Nat):Row k (w.alloc (.cells (rowOf k xs) t)) w.heap.size t xs:=heap_alloc_new w _
theorem Row.drewN (h:Row k w g t xs) (n:Nat):Row k (w.drewN n) g t xs:=h
theorem Row.alloc (h:Row k w g t xs) (o:Obj):Row k (w.alloc o) g t xs:=(Below.heap_alloc w o g h.lt).trans h
theorem Row.set (h:Row k w g t xs) (i x:Nat):Row k (w.setCell ⟨g,i,none⟩ (.int k (x:Int))) g t (xs.set i x):=by
 unfold Row at h ⊢
 simp [World.setCell,Array.getElem?_modify,h,zWr]
theorem Row.far (h:Row k w g t xs) {p:Addr} (hp:g≠p.block) (u:Value):Row k (w.setCell p u) g t xs:=(Below.heap_setCell w p u g hp).trans h
theorem Row.below {B:Nat} (h:Row k w g t xs) (hb:Below B w w') (hg:g<B):Row k w' g t xs:=(hb.block g hg).trans h
theorem Row.cells (h:Row k w g t xs):zAe k w (some ⟨g,0,none⟩) xs:=fun _=>⟨g,0,rfl,h.lt,fun i hi=>by rw [Nat.zero_add];exact h.cell hi⟩
end
theorem madeRow (k:IntKind) (n:Nat):madeCells (Value.int k 0).cells n=rowOf k (xGk n):=by
 have h:=toList_madeCells_one (.int k 0) n
 have h2:(madeCells (Value.int k 0).cells n).toList=(rowOf k (xGk n)).toList:=by
  show (madeCells #[Value.int k 0] n).toList=_
  rw [h];simp [rowOf,xGk]
 exact Array.toList_inj.1 h2
theorem zYk {P:Program} (t e:TypeId) (i:TypeInfo) (k:IntKind) (by_:Nat) (ht:P.underlying t=some (.slice e)) (hi:P.info? e=some i) (hz:i.zero=some (.int k 0)) (hs:i.size=1) (hby:i.bytes=by_)
  (n:Nat) (hb:by_*n<=281474976710656) (h63:n<=9223372036854775807) (w:World) :
  (Instr.makeSlice t (.int .i64 (n:Int)) (.int .i64 (n:Int))).run P w = .ok (.slice (some ⟨w.heap.size,0,none⟩) n n) (w.alloc (.cells (rowOf k (xGk n)) e)):=by
 have hb':(i.bytes:Int)*(n:Int)<=281474976710656:=by
  have h:((i.bytes*n:Nat):Int)<=281474976710656:=by rw [hby];omega
  rwa [Int.natCast_mul] at h
 have hr:=run_make (P:=P) w t e i (.int k 0) ht hi hz .i64 .i64 n n oMx (Int.le_refl _) hb' oMx;simp only [Int.toNat_natCast,hs,Nat.mul_one,madeRow] at hr;exact hr
def zBr (w:World) (v:Value) (n:Nat):Prop:=∃ A c,v = .slice A (limbs n).length c/\(limbs n).length<=c/\zAe .u64 w A (limbs n)
theorem zBr.below {w w':World} {v:Value} {n:Nat} (h:zBr w v n) (hb:Below w.heap.size w w'):zBr w' v n:=by
 obtain ⟨A,c,e,hl,hc⟩:=h;exact ⟨A,c,e,hl,hc.below hb⟩
def zFu (w:World) (n:Nat) (e:Ending) (w':World):Prop:=∃ v,e = .returned v/\zBr w' v n/\Below w.heap.size w w'
theorem below_drewN {B:Nat} {a w:World} (h:Below B a w) (n:Nat):Below B a (w.drewN n):=⟨h.os,h.tape,h.output,h.size,h.block⟩
theorem zZb (os:List Nat) (r t:Nat):(os++xGk (r+1)).set os.length t=(os++[t])++xGk r:=by
 unfold xGk;rw [List.replicate_succ];simp
theorem Tryz.infoU64:(Tryz.prog.info? 126).map (fun i=>(i.zero,i.size,i.bytes))=some (some (.int .u64 0),1,8):=by kernel_rfl
theorem zVp {P:Program} {f:FuncId} {args:Array Value} {w:World} {n:Nat} {v:Value}
  (h:Calls P f args (w.drewN n) fun e w'=>e = .returned v/\w.drewN n=w'):Calls P f args (w.drewN n) fun e w''=>e = .returned v/\∃ m,w''=w.drewN m :=
 h.mono fun _ _ ⟨he,hm⟩=>⟨he,n,hm.symm⟩
def Blk (w:World) (g:Nat) (t:TypeId) (cs:List Value):Prop:=w.heap[g]? = some (.cells cs.toArray t (0,0))
section
variable {w w':World} {g:Nat} {t:TypeId} {cs:List Value}
theorem Blk.lt (h:Blk w g t cs):g<w.heap.size:=by
 rcases Nat.lt_or_ge g w.heap.size with hlt|hge
 ·exact hlt
 unfold Blk at h;rw [Array.getElem?_eq_none hge] at h;cases h
theorem Blk.cell (h:Blk w g t cs) (i:Nat):w.cell? ⟨g,i,none⟩=cs[i]? :=by
 rw [cell_of_row w g i cs.toArray t (0,0) h];simp
theorem Blk.at_ (h:Blk w g t cs) {i:Nat} {v:Value} (hi:cs[i]? = some v):w.cell? ⟨g,i,none⟩=some v:=by rw [h.cell i,hi]
theorem Blk.fr (h:Blk w g t cs) (i:Nat):w.frozen? ⟨g,i,none⟩=false:=by
 unfold Blk at h
 simp [World.frozen?,h]
theorem Blk.new (w:World) (t:TypeId) (cs:List Value):Blk (w.alloc (.cells cs.toArray t)) w.heap.size t cs:=heap_alloc_new w _
theorem Blk.alloc (h:Blk w g t cs) (o:Obj):Blk (w.alloc o) g t cs:=(Below.heap_alloc w o g h.lt).trans h
theorem Blk.drew (h:Blk w g t cs):Blk w.drew g t cs:=h
theorem Blk.set (h:Blk w g t cs) (i:Nat) (u:Value):Blk (w.setCell ⟨g,i,none⟩ u) g t (cs.set i u):=by
 unfold Blk at h ⊢
 simp [World.setCell,Array.getElem?_modify,h]
theorem Blk.far (h:Blk w g t cs) {p:Addr} (hp:g≠p.block) (u:Value):Blk (w.setCell p u) g t cs:=(Below.heap_setCell w p u g hp).trans h
theorem Blk.under {B:Nat} (h:Blk w g t cs) (hb:Below B w w') (hg:g<B):Blk w' g t cs:=(hb.block g hg).trans h
theorem Blk.below (h:Blk w g t cs) (hb:Below w.heap.size w w'):Blk w' g t cs:=(hb.block g h.lt).trans h
theorem Blk.grown {row:Option Nat} (h:Blk w g t cs) (hb:w.grownBy w' row) (hg:some g≠row):Blk w' g t cs:=(hb.block g h.lt hg).trans h
end
def zBu (w:World) (v:Value) (xs:List Nat):Prop:=∃ A c,v = .slice A xs.length c/\xs.length<=c/\zAe .i64 w A xs
theorem zBu.below {w w':World} {v:Value} {xs:List Nat} (h:zBu w v xs) (hb:Below w.heap.size w w'):zBu w' v xs:=by
 obtain ⟨A,c,e,hl,hc⟩:=h;exact ⟨A,c,e,hl,hc.below hb⟩
def vn (xs:List Nat):List Value:=xs.map fun x:Nat=>Value.int .i64 (x:Int)
theorem xFm (xs:List Nat):(vn xs).length=xs.length:=by simp [vn]
theorem xFl {xs:List Nat} {i:Nat} (h:i<xs.length):(vn xs)[i]? = some (.int .i64 ((nth xs i:Nat):Int)):=by simp [vn,nth,h]
theorem xFo (xs:List Nat) (x:Nat):vn (xs++[x])=vn xs++[.int .i64 (x:Int)]:=by simp [vn]
theorem zUu {w:World} {B e:Nat} {v:Value} {xs:List Nat} (h:w.ownsRow B e 1 v xs.length (vn xs)):zBu w v xs:=by
 rcases h.2 with ⟨hv,h0⟩|⟨g,cap,cur,hv,hB,hg,hle,hm,hs,htake⟩
 ·have:xs=[]:=by simpa using h0
  subst this;exact ⟨none,0,hv,by simp,zAe.nil _ _ _⟩
 refine ⟨_,cap,hv,hle,fun _=>⟨g,0,rfl,?_,fun i hi=>?_⟩⟩
 ·rcases Nat.lt_or_ge g w.heap.size with h'|h'
  ·exact h'
  rw [Array.getElem?_eq_none h'] at hg;cases hg
 subst hv;have:=h.cellAt i oMx;rw [Nat.zero_add,this,xFl hi]
theorem zUv {w:World} {B e:Nat} {v:Value} {xs:List Nat} (h:w.ownsRow B e 1 v xs.length (vn xs)):∃ A c,v = .slice A xs.length c/\xs.length<=c/\zAe .i64 w A xs/\∀ b off,A=some ⟨b,off,none⟩->B<=b:=by
 obtain ⟨A,c,e1,h1,h2⟩:=zUu h;refine ⟨A,c,e1,h1,h2,?_⟩
 intro b off e2
 rcases h.2 with ⟨hv,h0⟩|⟨g,cap,cur,hv,hB,_⟩
 ·rw [e1] at hv;injection hv with hv;rw [e2] at hv
  cases hv
 rw [e1] at hv;injection hv with hv;rw [e2] at hv;injection hv with hv;injection hv with hv;omega
theorem Tryz.infoInt:(Tryz.prog.info? 3).map (fun i=>(i.zero,i.size,i.bytes))=some (some (.int .i64 0),1,8):=by kernel_rfl
theorem zTu {w:World} {u:Value} {t:TypeId}:∀ (j:Nat) (x:Value),([u]:List Value)[j]? = some x->(w.alloc (.cells #[u] t)).cell? ((⟨w.heap.size,0,none⟩:Addr).add j)=some x:=by
 intro j x hj
 match j,hj with
 | 0,hj=>simp at hj;subst hj;simp [Addr.add]
theorem zTs {k:IntKind} {n:Int}:∀ u∈([Value.int k n]:List Value),u.oneCell'=true:=by intro u hu;simp at hu;subst hu;rfl
theorem zHz (A:oAx) (xs:List Nat) (c i:Nat) (w:World) (hx:zAe .u64 w A xs) (hl:xs.length<=1000000000) (_hi:i<=2000000000) :
  Calls Tryz.prog 135 #[.slice A xs.length c,.int .i64 i] w fun e w'=>e = .returned (.int .u64 ((nth xs i:Nat):Int))/\w=w':=by
 by_cases h:i<xs.length
 ·obtain ⟨b,off,rfl,hb,hc⟩:=hx (by intro e;subst e;simp at h);have hci:=hc i h;clear hc
  go_enter Tryz.func135,Tryz.ntmps135
  go_wp2
  go_ret
  exact ⟨rfl,rfl⟩
 have e:=zSr (Nat.le_of_not_lt h);rw [e];clear e
 go_enter Tryz.func135,Tryz.ntmps135
 go_wp2
 go_ret
 exact ⟨rfl,rfl⟩
theorem xDh (A:oAx) (xs:List Nat) (c:Nat) (w:World) (hx:zAe .u64 w A xs) (hl:xs.length<=1000000000) (hlc:xs.length<=c) :
  Calls Tryz.prog 91 #[.slice A xs.length c] w fun e w'=>e = .returned (.slice A (xDa xs).length c)/\w=w':=by
 go_enter Tryz.func91,Tryz.ntmps91
 go_wp2
 go_loop [3] (fun n=>∃ k:Nat,k<=xs.length/\n = .int .i64 k/\xDa (xs.take k)=xDa xs) (fun n=>(intOf n).toNat)
 ·exact ⟨xs.length,lRx,rfl,by rw [List.take_length]⟩
 obtain ⟨k,hk,rfl,ht⟩:=hrel;have HT:=oH ht;clear ht
 rcases Nat.eq_zero_or_pos k with h0|h0
 ·subst h0;have E:=oH (show xDa xs=[] by rw [<-HT.out];rfl);clear HT
  go_wp2
  go_ret
  exact ⟨by rw [E.out];rfl,rfl⟩
 obtain ⟨b,off,rfl,hb,hc⟩:=hx (by intro e;subst e;simp at hk;omega);obtain ⟨j,rfl⟩:∃ j,k=j+1:=⟨k-1,oMx⟩;have hci:=hc j oMx;clear hc hx
 by_cases hz:nth xs j=0
 ·have hz':(((nth xs j:Nat):Int)==0)=true:=by simp [hz]
  have E:=oH ((xDg xs j oMx hz).symm.trans HT.out);clear hz HT
  go_wp2
  go_round
  ·exact ⟨j,oMx,by go_num,E.out⟩
  simp [intOf]
 have hz':(((nth xs j:Nat):Int)==0)=false:=by simp [hz]
 have E:=oH (HT.symm.trans (xDf xs j oMx hz));clear hz HT
 go_wp2
 go_ret
 exact ⟨by rw [E.out,List.length_take,Nat.min_eq_left hk];rfl,rfl⟩
theorem sign_neg (n:Int) (w:World) (h:n<0):Calls Tryz.prog 148 #[.int .i64 n] w fun e w'=>e = .returned (.int .i64 (-1))/\w=w':=by
 go_enter Tryz.func148,Tryz.ntmps148
 go_wp2
 go_ret
 exact ⟨rfl,rfl⟩
theorem sign_pos (n:Int) (w:World) (h:0<n):Calls Tryz.prog 148 #[.int .i64 n] w fun e w'=>e = .returned (.int .i64 1)/\w=w':=by
 have h':¬n<0:=by omega
 go_enter Tryz.func148,Tryz.ntmps148
 go_wp2
 go_ret
 exact ⟨rfl,rfl⟩
def RetInt (k:IntKind) (w:World) (n:Int) (e:Ending) (w':World):Prop:=e = .returned (.int k n)/\∃ m,w'=w.drewN m
theorem zJu (A A':oAx) (a b c c':Nat) (w:World) (ha:zAe .u64 w A (limbs a)) (hb:zAe .u64 w A' (limbs b)) (hla:(limbs a).length<=1000000000) (hlb:(limbs b).length<=1000000000) :
  Calls Tryz.prog 132 #[.slice A (limbs a).length c,.slice A' (limbs b).length c'] w (RetInt .i64 w (zJk a b)):=by
 by_cases hne:(limbs a).length=(limbs b).length
 ·have HE:=oH hne
  have hq:(((limbs a).length:Int) != ((limbs b).length:Int))=false:=by simp [hne]
  clear hne
  go_enter Tryz.func132,Tryz.ntmps132
  go_wp2
  go_loopw [5] (fun n wr=>∃ (k:Nat) (m:Nat),k<=(limbs a).length/\n = .int .i64 ((k:Int)-1)/\wr=w.drewN m/\val ((limbs a).drop k)=val ((limbs b).drop k)) (fun n _=>(intOf n+1).toNat)
  ·exact ⟨(limbs a).length,0,lRx,rfl,rfl,by rw [List.drop_length,HE.out,List.drop_length]⟩
  obtain ⟨k,m,hk,rfl,rfl,hd⟩:=hrel;have HD:=oH hd;clear hd
  rcases Nat.eq_zero_or_pos k with h0|h0
  ·subst h0;have E:=oH (show zJk a b=0 from zJl (by have:=HD.out;simpa [xEf] using this));clear HD
   go_wp2
   go_ret
   exact ⟨by rw [E.out];rfl,m,rfl⟩
  obtain ⟨j,rfl⟩:∃ j,k=j+1:=⟨k-1,oMx⟩;obtain ⟨g,off,rfl,hg,hc⟩:=ha (by intro e;rw [e] at hk;simp at hk)
  have hj:j<(limbs b).length:=by have:=HE.out;omega
  obtain ⟨g',off',rfl,hg',hc'⟩:=hb (by intro e;rw [e] at hj;simp at hj);have hci:=hc j oMx;have hci':=hc' j oMx;clear hc hc' ha hb;have el:=xEh (i:=j) HE.out oMx (Low.limbs a) HD.out;have eg:=xEh (i:=j) HE.symm oMx (Low.limbs b) HD.symm;rw [xEf,xEf] at el eg;have HL:=oH el;have HG:=oH eg;clear el eg
  by_cases h1:nth (limbs a) j<nth (limbs b) j
  ·have E:=oH (zJn (HL.out h1))
   go_wp2
   go_quiet (fail)
   go_wp2
   go_ret
   exact ⟨by rw [E.out];rfl,_,by simp only [World.drewN_drewN];rfl⟩
  by_cases h2:nth (limbs b) j<nth (limbs a) j
  ·have E:=oH (zJm (HG.out h2))
   go_wp2
   go_quiet (fail)
   go_wp2
   go_quiet (fail)
   go_wp2
   go_ret
   exact ⟨by rw [E.out];rfl,_,by simp only [World.drewN_drewN];rfl⟩
  have E:=oH (show val ((limbs a).drop j)=val ((limbs b).drop j) by rw [xEd,xEd (limbs b),HD.out];omega);clear HD
  go_wp2
  go_quiet (fail)
  go_wp2
  go_quiet (fail)
  go_wp2
  go_roundw
  ·exact ⟨j,_,oMx,by go_num,rfl,E.out⟩
  simp [intOf]
 have hq:(((limbs a).length:Int) != ((limbs b).length:Int))=true:=by simp [bne_iff_ne];omega
 rcases Nat.lt_or_gt_of_ne hne with h|h
 ·have E:=oH (zJn (zQc h))
  go_enter Tryz.func132,Tryz.ntmps132
  go_wp2_with (go_at_call 148;refine (sign_neg _ _ oMx).mono ?_;rintro e w' ⟨rfl,rfl⟩)
  go_ret
  exact ⟨by rw [E.out];rfl,0,rfl⟩
 have E:=oH (zJm (zQc h))
 go_enter Tryz.func132,Tryz.ntmps132
 go_wp2_with (go_at_call 148;refine (sign_pos _ _ oMx).mono ?_;rintro e w' ⟨rfl,rfl⟩)
 go_ret
 exact ⟨by rw [E.out];rfl,0,rfl⟩
def zBa (w wr:World) (g:Nat) (os:List Nat) (n k:Nat):Prop:=os.length=k/\Low os/\Row .u64 wr g 126 (os++xGk (n-k))/\Below w.heap.size w wr
theorem zBa.step {w wr:World} {g n k x:Nat} {os:List Nat} (h:zBa w wr g os n k) (hk:k<n) (hx:x<1000000000) (hg:w.heap.size<=g) :
  zBa w (wr.setCell ⟨g,k,none⟩ (.int .u64 (x:Int))) g (os++[x]) n (k+1):=by
 obtain ⟨hl,hlow,hrow,hb⟩:=h;refine ⟨by simp [hl],hlow.snoc hx,?_,hb.setCell hg _⟩;have h1:=hrow.set k x;obtain ⟨r,hr⟩:∃ r,n-k=r+1:=⟨n-k-1,oMx⟩
 have hr':n-(k+1)=r:=by omega
 rw [hr] at h1;rw [hr'];have h2:=zZb os r x;rw [hl] at h2;rw [h2] at h1;exact h1
theorem zBa.drewN {w wr:World} {g n k:Nat} {os:List Nat} (h:zBa w wr g os n k) (m:Nat):zBa w (wr.drewN m) g os n k:=⟨h.1,h.2.1,h.2.2.1,below_drewN h.2.2.2 m⟩
theorem xDi {w wr:World} {g n r:Nat} {os:List Nat} (h:zBa w wr g os n n) (hn:n<=1000000000) (hr:xDa os=limbs r) :
  Calls Tryz.prog 91 #[.slice (some ⟨g,0,none⟩) n n] wr fun e w'=>∃ v,e = .returned v/\zBr w' v r/\wr=w'/\v = .slice (some ⟨g,0,none⟩) (limbs r).length n:=by
 obtain ⟨hl,hlow,hrow,hb⟩:=h
 have e0:os++xGk (n-n)=os:=by simp [xGk]
 rw [e0] at hrow;subst hl;refine (xDh (some ⟨g,0,none⟩) os os.length wr hrow.cells hn lRx).mono ?_;rintro e w' ⟨rfl,rfl⟩;have h2:=(hrow.cells).take (xDa os).length;rw [<-xDe] at h2;have h3:=xDb os;rw [hr] at h2 h3;exact ⟨_,rfl,⟨_,_,by rw [hr],h3,h2⟩,rfl,by rw [hr]⟩
theorem zHq (A A':oAx) (a b c c':Nat) (w:World) (ha:zAe .u64 w A (limbs a)) (hb:zAe .u64 w A' (limbs b)) (hla:(limbs a).length<=100000000) (hlb:(limbs b).length<=100000000) :
  Calls Tryz.prog 111 #[.slice A (limbs a).length c,.slice A' (limbs b).length c'] w (zFu w (a+b)):=by
 obtain ⟨i0,hi,hz0,hz1,hz2⟩:=info_parts Tryz.infoU64;obtain ⟨n,hn⟩:∃ n,n=max (limbs a).length (limbs b).length:=⟨_,rfl⟩
 have hna:(limbs a).length<=n:=by omega
 have hnb:(limbs b).length<=n:=by omega
 have hn1:n<=100000000:=by omega
 have HM:=fun (m:Nat) (hm:m<=100000001)=>oH (fun W=>zYk (P:=Tryz.prog) 60 126 i0 .u64 8 Tryz.underlying60 hi hz0 hz1 hz2 m oMx oMx W)
 clear hi hz0 hz1 hz2;have HA:=Low.limbs a;have HB:=Low.limbs b;have hlA:∀ i,nth (limbs a) i<1000000000:=HA.nth;have hlB:∀ i,nth (limbs b) i<1000000000:=HB.nth;have HLA:=oH hlA;have HLB:=oH hlB;clear hlA hlB
 rcases Nat.lt_or_ge (limbs a).length (limbs b).length with hle|hle
 ·have hmk:=(HM ((limbs b).length+1) oMx).out;rw [Int.natCast_succ] at hmk
  have hq:n<=(limbs b).length:=by omega
  clear hn HM
  go_enter Tryz.func111,Tryz.ntmps111
  go_wp2_with fail;clear hmk
  go_loopw [6,18] (fun cy i wr=>∃ (k cr:Nat) (os:List Nat),k<=n+1/\i = .int .i64 (k:Int)/\cr<=1/\cy = .int .u64 (cr:Int)/\zBa w wr w.heap.size os (n+1) k/\val os+cr*1000000000^k=val ((limbs a).take k)+val ((limbs b).take k)) (fun _ i _=>n+1-(intOf i).toNat)
  case atStart => 
   refine ⟨0,0,[],oLx,rfl,oMx,rfl,⟨rfl,Low.nil,?_,bA⟩,by simp [val]⟩
   have:n=(limbs b).length:=by omega
   subst this;exact Row.new _ _ _ _
  obtain ⟨k,cr,os,hk,rfl,hcr,rfl,hfill,hv⟩:=hrel;have HF:=oH hfill;have HV:=oH hv;have hax:=ha.below hfill.2.2.2;have hbx:=hb.below hfill.2.2.2;have HX:=oH hax;have HY:=oH hbx;have hsz:=hfill.2.2.2.size;have hxk:=HLA.out k;have hyk:=HLB.out k;clear hfill hv hax hbx
  by_cases hlt:k<n+1
  ·have hrl:=HF.2.2.1
   have hll:k<(os++xGk (n+1-k)).length:=by rw [List.length_append,HF.1,xGl];omega
   have hcell:=hrl.cell hll;have hfr:=hrl.frozen k;clear hrl hll;go_wp2_with fail;refine (zHz _ _ _ _ _ HX.out oMx oMx).mono ?_;rintro e w' ⟨rfl,rfl⟩;go_wp2_with fail;refine (zHz _ _ _ _ _ HY.out oMx oMx).mono ?_;rintro e w' ⟨rfl,rfl⟩;go_wp2_with fail;go_roundw
   case rel =>
    have e1:((↑(nth (limbs a) k) + ↑(nth (limbs b) k) + ↑cr:Int))/1000000000=(((nth (limbs a) k+nth (limbs b) k+cr)/1000000000:Nat):Int):=by omega
    have e2:((↑(nth (limbs a) k) + ↑(nth (limbs b) k) + ↑cr:Int))%1000000000=(((nth (limbs a) k+nth (limbs b) k+cr)%1000000000:Nat):Int):=by omega
    rw [e1,e2];exact ⟨k+1,_,_,oMx,by go_num,oMx,rfl,HF.step hlt oMx lRx,zHs _ _ _ _ _ HF.1 HV.out⟩
   simp [intOf];omega
  obtain rfl:k=n+1:=by omega
  have HT:=oH (xDi HF.out oMx (zHr a b n cr os HF.1 HF.2.1 oMx oMx HV.out));rw [show n+1=(limbs b).length+1 by omega] at HT;go_wp2_with fail;refine HT.mono ?_;rintro e w' ⟨v,rfl,hv,rfl, -⟩;go_wp2_with fail;go_ret
  exact ⟨_,rfl,hv,HF.2.2.2⟩
 have hmk:=(HM ((limbs a).length+1) oMx).out;rw [Int.natCast_succ] at hmk
 have hq:n<=(limbs a).length:=by omega
 clear hn HM
 go_enter Tryz.func111,Tryz.ntmps111
 go_wp2_with fail;clear hmk
 go_loopw [6,18] (fun cy i wr=>∃ (k cr:Nat) (os:List Nat),k<=n+1/\i = .int .i64 (k:Int)/\cr<=1/\cy = .int .u64 (cr:Int)/\zBa w wr w.heap.size os (n+1) k/\val os+cr*1000000000^k=val ((limbs a).take k)+val ((limbs b).take k)) (fun _ i _=>n+1-(intOf i).toNat)
 case atStart => 
  refine ⟨0,0,[],oLx,rfl,oMx,rfl,⟨rfl,Low.nil,?_,bA⟩,by simp [val]⟩
  have:n=(limbs a).length:=by omega
  subst this;exact Row.new _ _ _ _
 obtain ⟨k,cr,os,hk,rfl,hcr,rfl,hfill,hv⟩:=hrel;have HF:=oH hfill;have HV:=oH hv;have hax:=ha.below hfill.2.2.2;have hbx:=hb.below hfill.2.2.2;have HX:=oH hax;have HY:=oH hbx;have hsz:=hfill.2.2.2.size;have hxk:=HLA.out k;have hyk:=HLB.out k;clear hfill hv hax hbx
 by_cases hlt:k<n+1
 ·have hrl:=HF.2.2.1
  have hll:k<(os++xGk (n+1-k)).length:=by rw [List.length_append,HF.1,xGl];omega
  have hcell:=hrl.cell hll;have hfr:=hrl.frozen k;clear hrl hll;go_wp2_with fail;refine (zHz _ _ _ _ _ HX.out oMx oMx).mono ?_;rintro e w' ⟨rfl,rfl⟩;go_wp2_with fail;refine (zHz _ _ _ _ _ HY.out oMx oMx).mono ?_;rintro e w' ⟨rfl,rfl⟩;go_wp2_with fail;go_roundw
  case rel =>
   have e1:((↑(nth (limbs a) k) + ↑(nth (limbs b) k) + ↑cr:Int))/1000000000=(((nth (limbs a) k+nth (limbs b) k+cr)/1000000000:Nat):Int):=by omega
   have e2:((↑(nth (limbs a) k) + ↑(nth (limbs b) k) + ↑cr:Int))%1000000000=(((nth (limbs a) k+nth (limbs b) k+cr)%1000000000:Nat):Int):=by omega
   rw [e1,e2];exact ⟨k+1,_,_,oMx,by go_num,oMx,rfl,HF.step hlt oMx lRx,zHs _ _ _ _ _ HF.1 HV.out⟩
  simp [intOf];omega
 obtain rfl:k=n+1:=by omega
 have HT:=oH (xDi HF.out oMx (zHr a b n cr os HF.1 HF.2.1 oMx oMx HV.out));rw [show n+1=(limbs a).length+1 by omega] at HT;go_wp2_with fail;refine HT.mono ?_;rintro e w' ⟨v,rfl,hv,rfl, -⟩;go_wp2_with fail;go_ret
 exact ⟨_,rfl,hv,HF.2.2.2⟩
theorem xBr (A A':oAx) (a b c c':Nat) (w:World) (ha:zAe .u64 w A (limbs a)) (hb:zAe .u64 w A' (limbs b)) (hla:(limbs a).length<=100000000) (hab:b<=a) :
  Calls Tryz.prog 112 #[.slice A (limbs a).length c,.slice A' (limbs b).length c'] w (zFu w (a-b)):=by
 obtain ⟨i0,hi,hz0,hz1,hz2⟩:=info_parts Tryz.infoU64;have hlb:=zQd hab
 have hmk:=fun W=>zYk (P:=Tryz.prog) 60 126 i0 .u64 8 Tryz.underlying60 hi hz0 hz1 hz2 (limbs a).length oMx oMx W
 clear hi hz0 hz1 hz2;have HLA:=oH (show ∀ i,nth (limbs a) i<1000000000 from (Low.limbs a).nth);have HLB:=oH (show ∀ i,nth (limbs b) i<1000000000 from (Low.limbs b).nth)
 go_enter Tryz.func112,Tryz.ntmps112
 go_wp2_with fail;clear hmk
 go_loopw [6,14] (fun cy i wr=>∃ (k cr:Nat) (os:List Nat),k<=(limbs a).length/\i = .int .i64 (k:Int)/\cr<=1/\cy = .int .u64 (cr:Int)/\zBa w wr w.heap.size os (limbs a).length k/\val os+val ((limbs b).take k)=val ((limbs a).take k)+cr*1000000000^k) (fun _ i _=>(limbs a).length-(intOf i).toNat)
 ·exact ⟨0,0,[],oLx,rfl,oMx,rfl,⟨rfl,Low.nil,Row.new _ _ _ _,bA⟩,by simp [val]⟩
 obtain ⟨k,cr,os,hk,rfl,hcr,rfl,hfill,hv⟩:=hrel;have HF:=oH hfill;have HV:=oH hv;have HX:=oH (ha.below hfill.2.2.2);have HY:=oH (hb.below hfill.2.2.2);have hsz:=hfill.2.2.2.size;have hxk:=HLA.out k;have hyk:=HLB.out k;clear hfill hv
 by_cases hlt:k<(limbs a).length
 ·have hrl:=HF.2.2.1
  have hll:k<(os++xGk ((limbs a).length-k)).length:=by rw [List.length_append,HF.1,xGl];omega
  have hcell:=hrl.cell hll;have hfr:=hrl.frozen k;obtain ⟨g,off,rfl,hg,hc⟩:=HX.out (by intro e;rw [e] at hlt;simp at hlt);have hca:=hc k hlt;clear hrl hll hc HX ha;go_wp2_with fail
  go_quiet ((go_at_call 135;exact zVp (zHz _ _ _ _ _ HY.out oMx oMx)))
  go_wp2_with fail;go_roundw
  case rel =>
   have e1:(1:Int)-(↑(nth (limbs a) k)+1000000000 - ↑(nth (limbs b) k) - ↑cr)/1000000000=((1-(nth (limbs a) k+1000000000-nth (limbs b) k-cr)/1000000000:Nat):Int):=by omega
   have e2:((↑(nth (limbs a) k)+1000000000 - ↑(nth (limbs b) k) - ↑cr:Int))%1000000000=(((nth (limbs a) k+1000000000-nth (limbs b) k-cr)%1000000000:Nat):Int):=by omega
   rw [e1,e2];exact ⟨k+1,_,_,oMx,by go_num,oMx,rfl,(HF.drewN _).step hlt oMx lRx,xBs _ _ _ _ _ HF.1 hxk hyk hcr HV.out⟩
  simp [intOf];omega
 obtain rfl:k=(limbs a).length:=by omega
 have HT:=oH (xDi HF.out oMx (sub_end a b cr os hab HF.1 HF.2.1 HV.out));go_wp2_with fail;refine HT.mono ?_;rintro e w' ⟨v,rfl,hv,rfl, -⟩;go_wp2_with fail;go_ret
 exact ⟨_,rfl,hv,HF.2.2.2⟩
def zHp (w wr:World) (g n:Nat) (r:List Nat):Prop:=r.length=n/\Low r/\Row .u64 wr g 126 r/\Below w.heap.size w wr
theorem zHp.step {w wr:World} {g n i x:Nat} {r:List Nat} (h:zHp w wr g n r) (hx:x<1000000000) (hg:w.heap.size<=g) :
  zHp w (wr.setCell ⟨g,i,none⟩ (.int .u64 (x:Int))) g n (r.set i x) :=
 ⟨by simp [h.1],h.2.1.set i hx,h.2.2.1.set i x,h.2.2.2.setCell hg _⟩
theorem zHp.fill {w wr:World} {g n:Nat} {r:List Nat} (h:zHp w wr g n r):zBa w wr g r n n :=
 ⟨h.1,h.2.1,by rw [Nat.sub_self,show xGk 0=[] from rfl,List.append_nil];exact h.2.2.1,h.2.2.2⟩
theorem zRv (A A':oAx) (a b c c':Nat) (w:World) (ha:zAe .u64 w A (limbs a)) (hb:zAe .u64 w A' (limbs b)) (hla:(limbs a).length<=100000000) (hlb:(limbs b).length<=100000000) :
  Calls Tryz.prog 80 #[.slice A (limbs a).length c,.slice A' (limbs b).length c'] w fun e w'=>zFu w (a*b) e w'/\e = .returned (.slice (some ⟨w.heap.size,0,none⟩) (limbs (a*b)).length ((limbs a).length+(limbs b).length)):=by
 obtain ⟨i0,hi,hz0,hz1,hz2⟩:=info_parts Tryz.infoU64
 have hmk:=fun W=>zYk (P:=Tryz.prog) 60 126 i0 .u64 8 Tryz.underlying60 hi hz0 hz1 hz2 ((limbs a).length+(limbs b).length) oMx oMx W
 rw [Int.natCast_add] at hmk;clear hi hz0 hz1 hz2;have HLA:=oH (show ∀ i,nth (limbs a) i<1000000000 from (Low.limbs a).nth);have HLB:=oH (show ∀ i,nth (limbs b) i<1000000000 from (Low.limbs b).nth)
 go_enter Tryz.func80,Tryz.ntmps80
 go_wp2_with fail;clear hmk
 go_loopw [20] (fun ix wr=>∃ (i:Nat) (r:List Nat),i<=(limbs a).length/\ix = .int .i64 (i:Int)/\zHp w wr w.heap.size ((limbs a).length+(limbs b).length) r/\(∀ j,i+(limbs b).length<=j->nth r j=0)/\val r=val ((limbs a).take i)*b) (fun i _=>(limbs a).length-(intOf i).toNat)
 case atStart =>
  refine ⟨0,xGk ((limbs a).length+(limbs b).length),oLx,rfl,⟨xGl _,zQr _,Row.new _ _ _ _,bA⟩,fun j _=>?_,by rw [xEs];simp [val]⟩
  simp [nth,xGk,List.getD_eq_getElem?_getD,List.getElem?_replicate]
  split<;>rfl
 obtain ⟨i,r,hi,rfl,hW,hz,hv⟩:=hrel;have HW:=oH hW;have HZ:=oH hz;have HV:=oH hv;have HX:=oH (ha.below hW.2.2.2);have HY:=oH (hb.below hW.2.2.2);have hsz:=hW.2.2.2.size;have hxk:=HLA.out i;clear hW hz hv
 by_cases hlt:i<(limbs a).length
 ·obtain ⟨g,off,rfl,hg,hc⟩:=HX.out (by intro e;rw [e] at hlt;simp at hlt);have hca:=hc i hlt;clear hc HX ha;go_wp2_with fail;obtain ⟨wo,rfl⟩:=nWx wr
  go_loopw [8,27] (fun cy kx wr=>∃ (k cr:Nat) (r:List Nat),k<=(limbs b).length/\kx = .int .i64 (k:Int)/\cr<1000000000/\cy = .int .u64 (cr:Int)/\zHp w wr w.heap.size ((limbs a).length+(limbs b).length) r/\(∀ j,i+(limbs b).length<=j->nth r j=0) /\
   val r+cr*1000000000^(i+k)=val ((limbs a).take i)*b+nth (limbs a) i*1000000000^i*val ((limbs b).take k)) (fun _ k _=>(limbs b).length-(intOf k).toNat)
  ·exact ⟨0,0,r,oLx,rfl,oMx,rfl,HW.out,HZ.out,by rw [HV.out];simp [val]⟩
  obtain ⟨k,cr,r,hk,rfl,hcr,rfl,hW,hz,hv⟩:=hrel;clear HW HZ HV HY;have HW:=oH hW;have HZ:=oH hz;have HV:=oH hv;have HY:=oH (hb.below hW.2.2.2);have hsz:=hW.2.2.2.size;have hyk:=HLB.out k;clear hW hz hv
  by_cases hlk:k<(limbs b).length
  ·obtain ⟨g',off',rfl,hg',hc'⟩:=HY.out (by intro e;rw [e] at hlk;simp at hlk);have hcb:=hc' k hlk;clear hc' HY hb;have hrl:=HW.2.2.1;have hcell:=hrl.cell (i:=i+k) (by rw [HW.1];omega);have hfr:=hrl.frozen (i+k);have hrk:=HW.2.1.nth (i+k)
   have hm:(nth (limbs a) i:Int)*(nth (limbs b) k:Int)<=999999998000000001:=by
    have h1:nth (limbs a) i*nth (limbs b) k<=999999999*999999999:=Nat.mul_le_mul oMx oMx
    rw [<-Int.natCast_mul];omega
   have hm0:0<=(nth (limbs a) i:Int)*(nth (limbs b) k:Int):=by rw [<-Int.natCast_mul];omega
   clear hrl;go_wp2_with fail;go_roundw
   case rel =>
    have e0:((nth (limbs a) i:Int))*(nth (limbs b) k:Int)=((nth (limbs a) i*nth (limbs b) k:Nat):Int):=by rw [Int.natCast_mul]
    rw [e0] at hm;rw [e0]
    have e1:((↑(nth r (i+k))+((nth (limbs a) i*nth (limbs b) k:Nat):Int) + ↑cr:Int))/1000000000=(((nth r (i+k)+nth (limbs a) i*nth (limbs b) k+cr)/1000000000:Nat):Int):=by
     generalize nth (limbs a) i*nth (limbs b) k=m;omega
    have e2:((↑(nth r (i+k))+((nth (limbs a) i*nth (limbs b) k:Nat):Int) + ↑cr:Int))%1000000000=(((nth r (i+k)+nth (limbs a) i*nth (limbs b) k+cr)%1000000000:Nat):Int):=by
     generalize nth (limbs a) i*nth (limbs b) k=m;omega
    rw [e1,e2];refine ⟨k+1,_,_,oMx,by go_num,?_,rfl,HW.step (Nat.mod_lt _ oMx) lRx,fun j hj=>?_,?_⟩
    ·generalize nth (limbs a) i*nth (limbs b) k=m at *;omega
    ·rw [zSv oMx];exact HZ.out j hj
    rw [xEn];exact zRx r i k _ _ cr _ _ (by rw [HW.1];omega) HV.out
   simp [intOf];omega
  obtain rfl:k=(limbs b).length:=by omega
  have hrl:=HW.2.2.1;have hcell:=hrl.cell (i:=i+(limbs b).length) (by rw [HW.1];omega);have hfr:=hrl.frozen (i+(limbs b).length);have hrz:=HZ.out (i+(limbs b).length) lRx
  have hrk:nth r (i+(limbs b).length)<1000000000:=by omega
  have HRZ:=oH hrz;clear hrl hrz;go_wp2_with fail;go_roundw
  case rel =>
   have e0:(nth r (i+(limbs b).length):Int)+(cr:Int)=((nth r (i+(limbs b).length)+cr:Nat):Int):=by omega
   rw [e0];refine ⟨i+1,_,oMx,by go_num,HW.step (by have:=HRZ.out;omega) lRx,fun j hj=>?_,?_⟩
   ·rw [zSv oMx];exact HZ.out j oMx
   have h1:=HV.out;rw [List.take_length,xEf] at h1;rw [zRw r i cr _ _ _ _ (by rw [HW.1];omega) HRZ.out h1,xEn]
   grind
  simp [intOf];omega
 obtain rfl:i=(limbs a).length:=by omega
 have h1:val r=a*b:=by have:=HV.out;rwa [List.take_length,xEf] at this
 have HT:=oH (xDi HW.fill oMx (show xDa r=limbs (a*b) by rw [<-zQm HW.2.1,h1]));clear h1;go_wp2_with fail;refine HT.mono ?_;rintro e w' ⟨v,rfl,hv,rfl,hve⟩;have HVE:=oH hve;clear hve;go_wp2_with fail;go_ret
 exact ⟨⟨_,rfl,hv,HW.2.2.2⟩,by rw [<-HVE.out];rfl⟩
theorem mul_any (A A':oAx) (a b c c':Nat) (w:World) (ha:zAe .u64 w A (limbs a)) (hb:zAe .u64 w A' (limbs b)) (hla:(limbs a).length<=100000000) (hlb:(limbs b).length<=100000000) :
  Calls Tryz.prog 80 #[.slice A (limbs a).length c,.slice A' (limbs b).length c'] w (zFu w (a*b)) :=
 (zRv A A' a b c c' w ha hb hla hlb).mono fun _ _ h=>h.1
theorem zHp.drew {w wr:World} {g n:Nat} {r:List Nat} (h:zHp w wr g n r):zHp w wr.drew g n r:=⟨h.1,h.2.1,h.2.2.1,h.2.2.2.drew⟩
theorem zZq (A:oAx) (a d c:Nat) (w:World) (ha:zAe .u64 w A (limbs a)) (hla:(limbs a).length<=100000000) (hd0:0<d) (hd1:d<1000000000) :
  Calls Tryz.prog 133 #[.slice A (limbs a).length c,.int .u64 d] w fun e w'=>∃ v,e = .returned (.tuple #[v,.int .u64 ((a%d:Nat):Int)])/\zBr w' v (a/d)/\Below w.heap.size w w':=by
 obtain ⟨i0,hi,hz0,hz1,hz2⟩:=info_parts Tryz.infoU64
 have hmk:=fun W=>zYk (P:=Tryz.prog) 60 126 i0 .u64 8 Tryz.underlying60 hi hz0 hz1 hz2 (limbs a).length oMx oMx W
 clear hi hz0 hz1 hz2;have HLA:=oH (show ∀ i,nth (limbs a) i<1000000000 from (Low.limbs a).nth)
 go_enter Tryz.func133,Tryz.ntmps133
 go_wp2_with fail;clear hmk
 go_loopw [7,8] (fun re ix wr=>∃ (k rest:Nat) (r:List Nat),k<=(limbs a).length/\ix = .int .i64 ((k:Int)-1)/\rest<d/\re = .int .u64 (rest:Int)/\zHp w wr w.heap.size (limbs a).length r/\d*val (r.drop k)+rest=val ((limbs a).drop k)) (fun _ i _=>(intOf i+1).toNat)
 case atStart =>
  refine ⟨(limbs a).length,0,xGk (limbs a).length,lRx,rfl,hd0,rfl,⟨xGl _,zQr _,Row.new _ _ _ _,bA⟩,?_⟩
  rw [List.drop_length,List.drop_eq_nil_of_le (by rw [xGl];omega)];rfl
 obtain ⟨k,rest,r,hk,rfl,hrd,rfl,hW,hv⟩:=hrel;have HW:=oH hW;have HV:=oH hv;have HX:=oH (ha.below hW.2.2.2);have hsz:=hW.2.2.2.size;clear hW hv
 rcases Nat.eq_zero_or_pos k with h0|h0
 ·subst h0;have h1:=HV.out;rw [List.drop_zero,List.drop_zero,xEf] at h1;have h2:=zZr a d rest r hrd HW.2.1 h1;have HT:=oH (xDi HW.fill oMx h2.1);have HE:=oH h2.2;clear h1 h2;go_wp2_with fail;refine HT.mono ?_;rintro e w' ⟨v,rfl,hv,rfl, -⟩;go_wp2_with fail;go_ret2
  exact ⟨v,by rw [<-HE.out];rfl,hv,HW.2.2.2⟩
 obtain ⟨j,rfl⟩:∃ j,k=j+1:=⟨k-1,oMx⟩;obtain ⟨g,off,rfl,hg,hc⟩:=HX.out (by intro e;rw [e] at hk;simp at hk);have hca:=hc j oMx;have hxk:=HLA.out j;have hrl:=HW.2.2.1;have hcell:=hrl.cell (i:=j) (by rw [HW.1];omega);have hfr:=hrl.frozen j;clear hc hrl ha HX;go_wp2_with fail
 go_region
 go_wp2_with fail;go_roundw
 case rel =>
  have e1:((rest:Int)*1000000000+(nth (limbs a) j:Int))%(d:Int)=(((rest*1000000000+nth (limbs a) j)%d:Nat):Int):=by simp
  have e2:((rest:Int)*1000000000+(nth (limbs a) j:Int))/(d:Int)=(((rest*1000000000+nth (limbs a) j)/d:Nat):Int):=by simp
  rw [e1,e2];exact ⟨j,_,_,oMx,by go_num,Nat.mod_lt _ hd0,rfl,(HW.step (zZs hrd hxk) lRx).drew,zZt _ _ _ _ _ (by rw [HW.1];omega) hd0 HV.out⟩
 simp [intOf]
theorem zTw {a w:World} {row:Option Nat} (h:a.grownBy w row) (n:Nat):a.grownBy (w.drewN n) row:=⟨h.os,h.tape,h.output,h.size,h.block⟩
theorem zTx {a w:World} {g:Nat} (h:a.grownBy w (some g)) {p:Addr} (hp:p.block=g\/a.heap.size<=p.block) (u:Value):a.grownBy (w.setCell p u) (some g) :=
 ⟨h.os,h.tape,h.output,by simpa [World.setCell] using h.size,fun i hi hne=>(Below.heap_setCell w p u i (by
  rintro rfl
  rcases hp with hp|hp
  ·exact hne (by rw [hp])
  omega)).trans (h.block i hi hne)⟩
def Off (g:Nat) (A:oAx):Prop:=∀ b off,A=some ⟨b,off,none⟩->b≠g
theorem zAe.only {k:IntKind} {w w':World} {A:oAx} {xs:List Nat} {g:Nat} (h:zAe k w A xs) (hb:w.grownBy w' (some g)) (ho:Off g A):zAe k w' A xs:=fun hn=>by
 obtain ⟨b,off,e,hlt,hc⟩:=h hn;have:=hb.size;exact ⟨b,off,e,oMx,fun i hi=>(World.cell?_of_block (w:=w) (a:=⟨b,off+i,none⟩) (hb.block b hlt (fun e'=>ho b off e (by injection e')))).trans (hc i hi)⟩
theorem zSo (xs ys:List Nat) (i:Nat):nth (xs++ys) (xs.length+i)=nth ys i:=by
 simp [nth,List.getD_eq_getElem?_getD,List.getElem?_append_right]
theorem zSn {xs ys:List Nat} {i:Nat} (h:i<xs.length):nth (xs++ys) i=nth xs i:=by
 simp [nth,List.getD_eq_getElem?_getD,List.getElem?_append_left h]
theorem Row.mid {k:IntKind} {w:World} {g:Nat} {t:TypeId} {pre us post:List Nat} {o i:Nat} (h:Row k w g t (pre++(us++post))) (ho:pre.length=o) (hi:i<us.length):w.cell? ⟨g,o+i,none⟩=some (.int k ((nth us i:Nat):Int)):=by
 have:=h.cell (i:=o+i) (by simp;omega);rw [this,<-ho,zSo,zSn hi]
theorem Row.mid_set {k:IntKind} {w:World} {g:Nat} {t:TypeId} {pre us post:List Nat} {o i:Nat} (h:Row k w g t (pre++(us++post))) (ho:pre.length=o) (hi:i<us.length) (x:Nat) :
  Row k (w.setCell ⟨g,o+i,none⟩ (.int k (x:Int))) g t (pre++(us.set i x++post)):=by
 have:=h.set (o+i) x;rw [<-ho,List.set_append_right _ _ oMx,Nat.add_sub_cancel_left,List.set_append_left _ _ hi] at this
 rw [<-ho];exact this
def Away (w wr:World) (g:Nat) (pre us post vs:List Nat) (q k bo:Nat) (os:List Nat):Prop :=
 os.length=k/\Low os/\Row .u64 wr g 126 (pre++((os++us.drop k)++post))/\w.grownBy wr (some g)/\val (us.take k)+bo*1000000000^k=val os+q*val (vs.take k)
theorem zZa (os us:List Nat) (k x:Nat) (hk:os.length=k) (hu:k<us.length):(os++us.drop k).set k x=(os++[x])++us.drop (k+1):=by
 rw [List.drop_eq_getElem_cons hu,List.set_append_right _ _ oMx,hk,Nat.sub_self,List.set_cons_zero]
 simp
theorem zSu (os us:List Nat) (k:Nat) (hk:os.length=k):nth (os++us.drop k) k=nth us k:=by
 have:=zSo os (us.drop k) 0;rw [hk,Nat.add_zero] at this
 rw [this];simp [nth]
theorem Away.step {w wr w2:World} {g q k bo:Nat} {pre us post vs os:List Nat} (h:Away w wr g pre us post vs q k bo os) (hk:k<us.length) (x bo':Nat) (hx:x<1000000000)
  (hrow:Row .u64 w2 g 126 (pre++(((os++us.drop k).set k x)++post))) (hg:w.grownBy w2 (some g)) (hb:nth us k+bo'*1000000000=x+q*nth vs k+bo):Away w w2 g pre us post vs q (k+1) bo' (os++[x]):=by
 obtain ⟨h1,h2,h3,h4,h5⟩:=h;refine ⟨by simp [h1],h2.snoc hx,?_,hg,xCq os us vs k q bo _ _ h1 rfl rfl h5 x bo' hb⟩;rw [zZa os us k x h1 hk] at hrow;exact hrow
theorem Away.lt {w wr:World} {g o q k bo:Nat} {pre us post vs os:List Nat} (h:Away w wr g pre us post vs q k bo os) (ho:pre.length=o) (hk:k<us.length) (hu:nth us k<1000000000) (hc:nth us k<(q*nth vs k+bo)%1000000000) :
  Away w ((wr.setCell ⟨g,o+k,none⟩ (.int .u64 ((nth us k:Int)+1000000000))).setCell ⟨g,o+k,none⟩ (.int .u64 ((nth us k:Int)+1000000000-((q:Int)*(nth vs k:Int)+(bo:Int))%1000000000)))
   g pre us post vs q (k+1) ((q*nth vs k+bo)/1000000000+1) (os++[nth us k+1000000000-(q*nth vs k+bo)%1000000000]):=by
 have hl:k<(os++us.drop k).length:=by have:=h.1;simp;omega
 have e1:(nth us k:Int)+1000000000=((nth us k+1000000000:Nat):Int):=by omega
 have e2:((nth us k+1000000000:Nat):Int)-((q:Int)*(nth vs k:Int)+(bo:Int))%1000000000=((nth us k+1000000000-(q*nth vs k+bo)%1000000000:Nat):Int):=by
  rw [<-Int.natCast_mul];generalize q*nth vs k=p at *;omega
 rw [e1,e2];have h1:=h.2.2.1.mid_set ho hl (nth us k+1000000000);have h2:=h1.mid_set (i:=k) ho (by simpa using hl) (nth us k+1000000000-(q*nth vs k+bo)%1000000000);rw [List.set_set] at h2;exact h.step hk _ _ oMx h2 (zTx (zTx h.2.2.2.1 (.inl rfl) _) (.inl rfl) _) (by generalize q*nth vs k=p at *;omega)
theorem Away.ge {w wr:World} {g o q k bo:Nat} {pre us post vs os:List Nat} (h:Away w wr g pre us post vs q k bo os) (ho:pre.length=o) (hk:k<us.length) (hu:nth us k<1000000000) (hc:¬nth us k<(q*nth vs k+bo)%1000000000) :
  Away w (wr.setCell ⟨g,o+k,none⟩ (.int .u64 ((nth us k:Int)-((q:Int)*(nth vs k:Int)+(bo:Int))%1000000000)))
   g pre us post vs q (k+1) ((q*nth vs k+bo)/1000000000) (os++[nth us k-(q*nth vs k+bo)%1000000000]):=by
 have hl:k<(os++us.drop k).length:=by have:=h.1;simp;omega
 have e2:(nth us k:Int)-((q:Int)*(nth vs k:Int)+(bo:Int))%1000000000=((nth us k-(q*nth vs k+bo)%1000000000:Nat):Int):=by
  rw [<-Int.natCast_mul];generalize q*nth vs k=p at *;omega
 rw [e2];exact h.step hk _ _ oMx (h.2.2.1.mid_set ho hl _) (zTx h.2.2.2.1 (.inl rfl) _) (by generalize q*nth vs k=p at *;omega)
def Back (w wr:World) (g:Nat) (pre xs post vs:List Nat) (k ca:Nat) (os:List Nat):Prop :=
 os.length=k/\Low os/\Row .u64 wr g 126 (pre++((os++xs.drop k)++post))/\w.grownBy wr (some g)/\val os+ca*1000000000^k=val (xs.take k)+val (vs.take k)
theorem Back.step {w wr:World} {g o k ca:Nat} {pre xs post vs os:List Nat} (h:Back w wr g pre xs post vs k ca os) (ho:pre.length=o) (hk:k<xs.length) :
  Back w (wr.setCell ⟨g,o+k,none⟩ (.int .u64 (((nth xs k+nth vs k+ca)%1000000000:Nat):Int))) g pre xs post vs (k+1) ((nth xs k+nth vs k+ca)/1000000000) (os++[(nth xs k+nth vs k+ca)%1000000000]):=by
 have hl:k<(os++xs.drop k).length:=by have:=h.1;simp;omega
 have h1:=h.2.2.1.mid_set ho hl ((nth xs k+nth vs k+ca)%1000000000);rw [zZa os xs k _ h.1 hk] at h1;exact ⟨by simp [h.1],h.2.1.snoc (Nat.mod_lt _ oMx),h1,zTx h.2.2.2.1 (.inl rfl) _,zHs xs vs os k ca h.1 h.2.2.2.2⟩
theorem val_last (us:List Nat) (n:Nat) (h:us.length=n+1):val us=val (us.take n)+nth us n*1000000000^n:=by
 have:=xEl us n;rw [h,Nat.min_eq_left oMx,xEd us n,List.drop_eq_nil_of_le oMx,xEi] at this
 rw [this];grind
theorem last_set (os us:List Nat) (n x:Nat) (ho:os.length=n) (h:us.length=n+1):(os++us.drop n).set n x=os++[x]:=by
 rw [zZa os us n x ho oMx,List.drop_eq_nil_of_le oMx,List.append_nil]
theorem zWh {a b:Int} (h:a=b):Ending.returned (.int .u64 a) = .returned (.int .u64 b):=by rw [h]
theorem step_end {w w2:World} {g n U V x:Nat} {pre os us post:List Nat} (hrow:Row .u64 w2 g 126 (pre++((os++us.drop n).set n x++post))) (hg:w.grownBy w2 (some g)) (ho:os.length=n) (hu:us.length=n+1) (hlow:Low os) (hx:x<1000000000) (hv:val os+x*1000000000^n=U%V) :
  ∃ us',Row .u64 w2 g 126 (pre++(us'++post))/\us'.length=n+1/\Low us'/\val us'=U%V/\w.grownBy w2 (some g):=by
 rw [last_set os us n x ho hu] at hrow;refine ⟨os++[x],hrow,by simp [ho],hlow.snoc hx,?_,hg⟩;rw [xEk,ho,Nat.mul_comm,hv]
theorem Low.of_val {os:List Nat} {k:Nat} (h:Low os) (hl:os.length=k):val os<1000000000^k:=by rw [<-hl];exact xEg h
theorem step_any (g o n c c':Nat) (A':oAx) (pre us post vs:List Nat) (w:World) (hrow:Row .u64 w g 126 (pre++(us++post))) (ho:pre.length=o) (hul:us.length=n+3) (hvl:vs.length=n+2)
  (hu:Low us) (hv:Low vs) (hc:zAe .u64 w A' vs) (hoff:Off g A') (hn:n<=1000000000) (htop:0<nth vs (n+1)) (hlt:val us<1000000000*val vs) :
  Calls Tryz.prog 134 #[.slice (some ⟨g,o,none⟩) (n+3) c,.slice A' (n+2) c'] w fun e w'=>∃ us',e = .returned (.int .u64 ((val us/val vs:Nat):Int)) /\
   Row .u64 w' g 126 (pre++(us'++post))/\us'.length=n+3/\Low us'/\val us'=val us%val vs/\w.grownBy w' (some g):=by
 have hT:zHf (val us) (val vs) (1000000000^n) (nth vs (n+1)) (nth vs n) (val (vs.take n)) (nth us (n+2)*1000000000+nth us (n+1)) (nth us n) (val (us.take n)) :=
  ⟨xEo vs n hvl,val_top3 us n hul,by have:=xEg (hv.take n);rwa [List.length_take,Nat.min_eq_left oMx] at this,by have:=xEg (hu.take n);rwa [List.length_take,Nat.min_eq_left oMx] at this,hv.nth _,hu.nth _,htop,hlt⟩
 obtain ⟨b,off,rfl,hb,hcv⟩:=hc (by intro e;rw [e] at hvl;simp at hvl);have hu0:=hrow.mid (i:=n+2) ho oMx;have hu1:=hrow.mid (i:=n+1) ho oMx;have hu2:=hrow.mid (i:=n) ho oMx;have hv1:=hcv (n+1) oMx;have hv2:=hcv n oMx;have bu0:=hu.nth (n+2);have bu1:=hu.nth (n+1);have bu2:=hu.nth n;have bv1:=hv.nth (n+1);have bv2:=hv.nth n;have HT:=oH hT;have HC:=oH hcv;have HO:=oH ho;have HUL:=oH hul;have HVL:=oH hvl;clear hT hcv hc ho hul hvl
 go_enter Tryz.func134,Tryz.ntmps134
 go_wp2_with fail
 go_quiet (fail)
 go_wp2_with fail
 go_quiet (fail)
 go_wp2_with fail
 go_loopw [7,8] (fun qx rx wr=>∃ (q r m:Nat),qx = .int .u64 (q:Int)/\rx = .int .u64 (r:Int)/\q<=1000000000000000000/\r<=2000000000/\wr=w.drewN m/\val us<(q+1)*val vs/\q*nth vs (n+1)+r=nth us (n+2)*1000000000+nth us (n+1)) (fun q _ _=>(intOf q).toNat)
 case atStart =>
  refine ⟨(nth us (n+2)*1000000000+nth us (n+1))/nth vs (n+1),(nth us (n+2)*1000000000+nth us (n+1))%nth vs (n+1),_,by simp,by simp,?_,?_,by rw [World.drewN_drewN],HT.init ?_,?_⟩
  ·exact Nat.le_trans (Nat.div_le_self _ _) oMx
  ·have:=Nat.mod_lt (nth us (n+2)*1000000000+nth us (n+1)) htop;omega
  ·have:=Nat.lt_mul_div_succ (nth us (n+2)*1000000000+nth us (n+1)) htop;rwa [Nat.mul_comm (nth vs (n+1))] at this
  rw [Nat.mul_comm ((nth us (n+2)*1000000000+nth us (n+1))/nth vs (n+1))];exact Nat.div_add_mod _ _
 obtain ⟨q,r,m,rfl,rfl,hq,hr,rfl,h1,h2⟩:=hrel;have H1:=oH h1;have H2:=oH h2;clear h1 h2
 have hm:q<1000000000->(q:Int)*(nth vs n:Int)<=999999998000000001:=fun h=>by
  have h1:q*nth vs n<=999999999*999999999:=Nat.mul_le_mul oMx oMx
  rw [<-Int.natCast_mul];omega
 have hm0:0<=(q:Int)*(nth vs n:Int):=by rw [<-Int.natCast_mul];omega
 have hcases:(r<1000000000/\1000000000<=q)\/(r<1000000000/\q<1000000000/\r*1000000000+nth us n<q*nth vs n) \/
   ((q<1000000000/\q*val vs<=val us+val vs)/\(decide ((r:Int)<1000000000)=false\/(decide ((r:Int)<1000000000)=true/\decide ((1000000000:Int)<=(q:Int))=false/\decide ((r:Int)*1000000000+(nth us n:Int)<(q:Int)*(nth vs n:Int))=false))):=by
  by_cases c1:r<1000000000
  ·by_cases c2:q<1000000000
   ·by_cases c3:r*1000000000+nth us n<q*nth vs n
    ·exact .inr (.inl ⟨c1,c2,c3⟩)
    exact .inr (.inr ⟨⟨c2,HT.exit_small H2.out c2 oMx⟩,.inr ⟨by simp;omega,by simp;omega,by rw [<-Int.natCast_mul];simp;omega⟩⟩)
   exact .inl ⟨c1,oMx⟩
  exact .inr (.inr ⟨⟨HT.q_lt H2.out oMx,HT.exit_big H2.out oMx⟩,.inl (by simp;omega)⟩)
 rcases hcases with ⟨c1,c2⟩|⟨c1,c2,c3⟩|⟨⟨hqB,hqV⟩,hcc⟩
 ·have d1:decide ((r:Int)<1000000000)=true:=by simp;omega
  have d2:decide ((1000000000:Int)<=(q:Int))=true:=by simp;omega
  go_wp2_with fail
  go_quiet (fail)
  go_wp2_with fail;go_roundw
  case rel =>
   refine ⟨q-1,r+nth vs (n+1),_,?_,by simp,oMx,oMx,rfl,?_,?_⟩
   ·rw [Int.natCast_sub oMx];rfl
   ·have:=HT.dec_big c2;rwa [Nat.sub_add_cancel oMx]
   have:=H2.out;obtain ⟨p,rfl⟩:∃ p,q=p+1:=⟨q-1,oMx⟩;rw [Nat.add_sub_cancel];rw [Nat.add_mul] at this;omega
  simp [intOf];omega
 ·have d1:decide ((r:Int)<1000000000)=true:=by simp;omega
  have d2:decide ((1000000000:Int)<=(q:Int))=false:=by simp;omega
  have d3:decide ((r:Int)*1000000000+(nth us n:Int)<(q:Int)*(nth vs n:Int))=true:=by rw [<-Int.natCast_mul];simp;omega
  have hm:=hm c2
  have hq0:0<q:=by rcases Nat.eq_zero_or_pos q with e|e;(subst e;omega);exact e
  have C3:=oH c3;clear c3;go_wp2_with fail
  go_quiet (fail)
  go_wp2_with fail;go_roundw
  case rel =>
   refine ⟨q-1,r+nth vs (n+1),_,?_,by simp,oMx,oMx,rfl,?_,?_⟩
   ·rw [Int.natCast_sub oMx];rfl
   ·have:=HT.dec H2.out C3.out;rwa [Nat.sub_add_cancel oMx]
   have:=H2.out;obtain ⟨p,rfl⟩:∃ p,q=p+1:=⟨q-1,oMx⟩;rw [Nat.add_sub_cancel];rw [Nat.add_mul] at this;omega
  simp [intOf];omega
 have hm':=hm hqB;clear hm;have HQV:=oH hqV;have HLT:=oH hlt;clear hqV hlt
 rcases hcc with d1|⟨d1,d2,d3⟩
 all_goals (
  go_wp2_with fail
  go_quiet (fail)
  go_wp2_with fail)
 all_goals (
  clear hm' hm0 hu0 hu1 hu2 hv1 hv2 bu0 bu1 bu2 bv1 bv2 H2 HT d1
  try clear d2 d3
  go_loopw [9,80] (fun bx ix wr=>∃ (k bo:Nat) (os:List Nat),k<=n+2/\ix = .int .i64 (k:Int)/\bo<=1000000000/\bx = .int .u64 (bo:Int)/\Away w wr g pre us post vs q k bo os) (fun _ i _=>n+2-(intOf i).toNat)
  ·exact ⟨0,0,[],oLx,rfl,oMx,rfl,rfl,Low.nil,by simpa using hrow.drewN _,zTw (World.grownBy.refl _ _) _,by simp [val]⟩
  obtain ⟨k,bo,os,hk,rfl,hbo,rfl,hA⟩:=hrel;have HA:=oH hA;have hgs:=hA.2.2.2.1.size;clear hA
  by_cases hlk:k<n+2
  ·have hcv:=(World.grownBy.cell HA.2.2.2.1 (HC.out k (by rw [HVL.out];omega)) (fun e=>hoff b off rfl (by injection e)))
   have hul:k<(os++us.drop k).length:=by have:=HUL.out;have:=HA.1;simp;omega
   have hcu:=HA.2.2.1.mid (i:=k) HO.out hul;rw [zSu os us k HA.1] at hcu;have hfr:=HA.2.2.1.frozen (o+k);have bx:=hu.nth k;have by_:=hv.nth k
   have hm:(q:Int)*(nth vs k:Int)<=999999998000000001:=by
    have h1:q*nth vs k<=999999999*999999999:=Nat.mul_le_mul oMx oMx
    rw [<-Int.natCast_mul];omega
   have hm0:0<=(q:Int)*(nth vs k:Int):=by rw [<-Int.natCast_mul];omega
   have HUK:=oH hul;clear hul
   by_cases hlow:(nth us k:Int)<((q:Int)*(nth vs k:Int)+(bo:Int))%1000000000
   ·go_wp2_with fail;go_roundw
    case rel =>
     refine ⟨k+1,(q*nth vs k+bo)/1000000000+1,_,oMx,by go_num,?_,by simp,HA.lt HO.out (by have:=HUL.out;omega) bx ?_⟩
     ·rw [<-Int.natCast_mul] at hm;generalize q*nth vs k=p at *;omega
     rw [<-Int.natCast_mul] at hlow;generalize q*nth vs k=p at *;omega
    simp [intOf];omega
   go_wp2_with fail;go_roundw
   case rel =>
    refine ⟨k+1,(q*nth vs k+bo)/1000000000,_,oMx,by go_num,?_,by simp,HA.ge HO.out (by have:=HUL.out;omega) bx ?_⟩
    ·rw [<-Int.natCast_mul] at hm;generalize q*nth vs k=p at *;omega
    rw [<-Int.natCast_mul] at hlow;generalize q*nth vs k=p at *;omega
   simp [intOf];omega
  obtain rfl:k=n+2:=by omega
  have hxl:(os++us.drop (n+2)).length=n+3:=by have:=HUL.out;have:=HA.1;simp;omega
  have hcu:=HA.2.2.1.mid (i:=n+2) HO.out oMx;rw [zSu os us (n+2) HA.1] at hcu;have hfr:=HA.2.2.1.frozen (o+(n+2));have bx:=hu.nth (n+2);have HXL:=oH hxl;clear hxl hrow;have hUv:=val_last us (n+2) HUL.out;have hAv:=HA.2.2.2.2;rw [List.take_of_length_le (l:=vs) (by rw [HVL.out];omega)] at hAv;have HUV:=oH hUv;have HAV:=oH hAv;clear hUv hAv
  by_cases hge:bo<=nth us (n+2)
  ·have hR:=xBd H1.out HUV.out (val os) HAV.out hge;have HR:=oH hR;clear hR;go_wp2_with fail;go_ret
   have e:(nth us (n+2):Int)-(bo:Int)=((nth us (n+2)-bo:Nat):Int):=by omega
   rw [e];obtain ⟨us',h1,h2,h3,h4,h5⟩:=step_end (n:=n+2) (HA.2.2.1.mid_set HO.out (by rw [HXL.out];omega) (nth us (n+2)-bo)) (zTx HA.2.2.2.1 (.inl rfl) _) HA.1 HUL.out HA.2.1 oMx HR.2;exact ⟨us',by rw [<-HR.1];rfl,h1,h2,h3,h4,h5⟩
  go_wp2_with fail;obtain ⟨wo,hwo⟩:∃ wo:World,wo=wr:=⟨_,rfl⟩
  go_loopw [14,132] (fun cx ix wr=>∃ (k ca:Nat) (os2:List Nat),k<=n+2/\ix = .int .i64 (k:Int)/\ca<=1/\cx = .int .u64 (ca:Int)/\Back w wr g pre (os++us.drop (n+2)) post vs k ca os2) (fun _ i _=>n+2-(intOf i).toNat)
  ·exact ⟨0,0,[],oLx,rfl,oMx,rfl,rfl,Low.nil,by simpa using HA.2.2.1,HA.2.2.2.1,by simp [val]⟩
  obtain ⟨k,ca,os2,hk,rfl,hca,rfl,hB⟩:=hrel;have HB:=oH hB;clear hB hcu hfr
  by_cases hlk:k<n+2
  ·have hcv:=(World.grownBy.cell HB.2.2.2.1 (HC.out k (by rw [HVL.out];omega)) (fun e=>hoff b off rfl (by injection e)))
   have hul:k<(os2++(os++us.drop (n+2)).drop k).length:=by have:=HXL.out;have:=HB.1;rw [List.length_append,List.length_drop];omega
   have hcu:=HB.2.2.1.mid (i:=k) HO.out hul;rw [zSu os2 _ k HB.1,zSn (by rw [HA.1];omega)] at hcu;have hfr:=HB.2.2.1.frozen (o+k);have bx:=HA.2.1.nth k;have by_:=hv.nth k;clear hul;go_wp2_with fail;go_roundw
   case rel =>
    have hS:=HB.step HO.out (by rw [HXL.out];omega);rw [zSn (by rw [HA.1];omega)] at hS
    have e1:((nth os k:Int)+(nth vs k:Int)+(ca:Int))/1000000000=(((nth os k+nth vs k+ca)/1000000000:Nat):Int):=by omega
    have e2:((nth os k:Int)+(nth vs k:Int)+(ca:Int))%1000000000=(((nth os k+nth vs k+ca)%1000000000:Nat):Int):=by omega
    rw [e1,e2];exact ⟨k+1,_,_,oMx,by go_num,oMx,rfl,hS⟩
   simp [intOf];omega
  obtain rfl:k=n+2:=by omega
  have hul:n+2<(os2++(os++us.drop (n+2)).drop (n+2)).length:=by have:=HXL.out;have:=HB.1;rw [List.length_append,List.length_drop];omega
  have hcu:=HB.2.2.1.mid (i:=n+2) HO.out hul;rw [zSu os2 _ (n+2) HB.1,zSu os us (n+2) HA.1] at hcu;have hfr:=HB.2.2.1.frozen (o+(n+2));have hbv:=HB.2.2.2.2;rw [List.take_of_length_le (l:=vs) (by rw [HVL.out];omega),List.take_append_of_le_length (by rw [HA.1];omega),List.take_of_length_le (by rw [HA.1];omega)] at hbv
  have hV0:0<val vs:=by rcases Nat.eq_zero_or_pos (val vs) with e|e;(have:=HLT.out;rw [e] at this;omega);exact e
  have hS:=xBa HQV.out HUV.out (val os) (HA.2.1.of_val HA.1) HAV.out oMx (val os2) ca (HB.2.1.of_val HB.1) (hv.of_val HVL.out) hV0 hbv;obtain ⟨hq0,hS1,hS2,hS3⟩:=hS;have HS1:=oH hS1;have HS2:=oH hS2;have HS3:=oH hS3;have HUL2:=oH hul;clear hbv hV0 hS1 hS2 hS3 hul
  have hst:IntKind.u64.wrap ((nth us (n+2):Int)+IntKind.u64.wrap ((ca:Int)-(bo:Int)))=0:=by
   have:=HS3.out
   rw [IntKind.wrap_u64,IntKind.wrap_u64];omega
  go_wp2_with fail;go_ret
  obtain ⟨us',h1,h2,h3,h4,h5⟩:=step_end (n:=n+2) (HB.2.2.1.mid_set HO.out HUL2.out 0) (zTx HB.2.2.2.1 (.inl rfl) _) HB.1 HXL.out HB.2.1 oMx (by rw [Nat.zero_mul,Nat.add_zero];exact HS2.out)
  have e:(q:Int)-1=((val us/val vs:Nat):Int):=by rw [<-HS1.out];omega
  exact ⟨us',zWh e,h1,h2,h3,h4,h5⟩)
def zHh (w:World) (A:oAx) (cs:List Value):Prop:=cs≠[]->∃ b off,A=some ⟨b,off,none⟩/\b<w.heap.size/\∀ i,(h:i<cs.length)->w.cell? ⟨b,off+i,none⟩=some cs[i]
theorem zHh.nil (w:World) (A:oAx):zHh w A []:=fun h=>absurd rfl h
theorem zHh.below {w w':World} {A:oAx} {cs:List Value} (h:zHh w A cs) (hb:Below w.heap.size w w'):zHh w' A cs:=fun hn=>by
 obtain ⟨b,off,e,hlt,hc⟩:=h hn;have:=hb.size;exact ⟨b,off,e,oMx,fun i hi=>(hb.cell (p:=⟨b,off+i,none⟩) hlt).trans (hc i hi)⟩
theorem zHh.at_ {w:World} {b off:Nat} {cs:List Value} (h:zHh w (some ⟨b,off,none⟩) cs) {i:Nat} {v:Value} (hi:cs[i]? = some v):w.cell? ⟨b,off+i,none⟩=some v:=by
 obtain ⟨hl,e⟩:=List.getElem?_eq_some_iff.1 hi;obtain ⟨b',off',e',_,hc⟩:=h (by intro h0;subst h0;simp at hl);injection e' with e';injection e' with e1 e2;subst e1 e2;rw [hc i hl,e]
def zOl {α:Type} (p:α->Bool) (l:List α):Int:=match l.findIdx? p with|some i=>(i:Int)|none => -1
theorem zOm {α:Type} {p:α->Bool} {l:List α} {k:Nat} (hk:k<l.length) (h:p l[k]=true) (hb:∀ j,(hj:j<l.length)->j<k->p l[j]=false):zOl p l=k:=by
 unfold zOl;rw [show l.findIdx? p=some k from List.findIdx?_eq_some_iff_getElem.2 ⟨hk,h,fun j hj=>by simp [hb j oMx hj]⟩]
theorem zOo {α:Type} {p:α->Bool} {l:List α} (hb:∀ j,(hj:j<l.length)->p l[j]=false):zOl p l = -1:=by
 unfold zOl
 rw [show l.findIdx? p=none from List.findIdx?_eq_none_iff.2 fun x hx=>by
  obtain ⟨j,hj,e⟩:=List.getElem_of_mem hx
  rw [<-e,hb j hj]]
theorem zOn {α:Type} (p:α->Bool) (l:List α):decide (0<=zOl p l)=l.any p:=by
 rw [Bool.eq_iff_iff,decide_eq_true_eq,List.any_eq_true];unfold zOl
 constructor
 ·intro h
  split at h
  ·rename_i i e
   obtain ⟨hi,he,_⟩:=List.findIdx?_eq_some_iff_getElem.1 e;exact ⟨_,List.getElem_mem hi,he⟩
  omega
 rintro ⟨x,hx,he⟩
 split
 ·omega
 rename_i e
 rw [List.findIdx?_eq_none_iff.1 e x hx] at he
 cases he
theorem Blk.new' {w:World} {g:Nat} (hg:w.heap.size=g) (t:TypeId) (cs:List Value):Blk (w.alloc (.cells cs.toArray t)) g t cs:=hg▸Blk.new w t cs
def xCo (P:Program) (ops:Array Oper) (Q:Exit->Act->World->Prop) (t:Oper):Exit->Act->World->Prop
 | .normal,a,w=>wpList P ops Q [t] a w
 | e,a,w=>Q e a w
def zIi (md:Region.Mode) (ops:Array Oper):Bool:=(List.range ops.size).all fun i=>match ops[i]? with
 | some o=>o.guard.isNone&&o.after.all fun e => !Region.binds md e || decide (e.on<i)
 | none=>false
section
variable {P:Program} {Q Q':Exit->Act->World->Prop} {md:Region.Mode}
theorem zTy {o:Oper} {a:Act} {w:World} {K:Act->World->Prop} (hQ:∀ c a w,Q' (.panic c) a w->Q (.panic c) a w) (hL:LetsOut Q'->LetsOut Q) (h:o.wp P a w K Q'):o.wp P a w K Q:=by
 unfold Oper.wp at *;generalize (execOp a.eval o).run P w=r at *
 cases r with
 | ok n w' =>
  cases n<;>simp only [Oper.upon] at h ⊢ <;>
   first
    | exact h
    | exact Calls.mono h (fun e w'' he=>by
      cases e
      ·exact he
      ·exact hQ _ _ _ he
      exact hL he)
 | halt x w' =>
  cases x<;>simp only [Oper.upon] at h ⊢
  exact hQ _ _ _ h
theorem zIj {ops:Array Oper} (h:zIi md ops=true) {i:Nat} {o:Oper} (ho:ops[i]? = some o):o.guard=none/\∀ e∈o.after,Region.binds md e=true->e.on<i:=by
 have hi:i<ops.size:=(Array.getElem?_eq_some_iff.1 ho).1;have h1:=List.all_eq_true.1 h i (List.mem_range.2 hi);rw [ho] at h1;simp only [Bool.and_eq_true,Option.isNone_iff_eq_none] at h1;refine ⟨h1.1,fun e he hb=>?_⟩;have h2:=(Array.all_eq_true'.1 h1.2) e he;simp only [hb,Bool.not_true,Bool.false_or] at h2;exact of_decide_eq_true h2
theorem zVh {l:Array Bool} {i:Nat} (d:Bool) (h:i<l.size):(l.push false).getD i d=l.getD i d:=by
 simp [Array.getElem?_push,Nat.ne_of_lt h]
theorem zVi {l:Array Bool} (d:Bool):(l.push false).getD l.size d=false:=by simp
theorem push_out {l:Array Bool} {i:Nat} (d:Bool) (h:l.size<i):(l.push false).getD i d=d:=by
 simp [Array.getElem?_push,show ¬i=l.size by omega,show ¬i<l.size by omega]
theorem zNz {l:Array Bool} {i:Nat} (d:Bool) (h:l.size<=i):l.getD i d=d:=by simp [Array.getElem?_eq_none h]
theorem zVj {l:Array Bool} {i:Nat} (h:i<l.size):(l.push false).setIfInBounds i true=(l.setIfInBounds i true).push false:=by
 apply Array.ext_getElem?
 intro j
 simp only [Array.getElem?_setIfInBounds,Array.getElem?_push,Array.size_push,Array.size_setIfInBounds]
 by_cases hij:i=j
 ·subst hij
  simp [h,Nat.ne_of_lt h]
  omega
 simp [hij]
variable {ops:Array Oper} {n:Nat}
theorem zVf (hn:ops.size=n+1) {i:Nat} (hi:i<n):ops.pop[i]? = ops[i]? :=by
 rw [Array.getElem?_pop,if_pos oMx]
theorem pop_out (hn:ops.size=n+1) {i:Nat} (hi:n<=i):ops.pop[i]? = none:=by
 rw [Array.getElem?_pop,if_neg oMx]
theorem zWa (hn:ops.size=n+1) {l:Array Bool} (hl:l.size=n) {i:Nat} (hi:i<n):i∈Region.ready md ops.pop l↔i∈Region.ready md ops (l.push false):=by
 rw [mem_ready,mem_ready,zVf hn hi,zVh true oMx]
 refine and_congr_right fun _=>exists_congr fun o=>and_congr_right fun _=>forall_congr' fun e=>forall_congr' fun _=>forall_congr' fun _=>?_
 rcases Nat.lt_trichotomy e.on n with h|h|h
 ·rw [zVh false oMx]
 ·rw [zNz false oMx,show e.on=l.size by omega,zVi]
 rw [zNz false oMx,push_out false oMx]
theorem zWb (hn:ops.size=n+1) {l:Array Bool} {i:Nat} (h:i∈Region.ready md ops.pop l):i<n:=by
 obtain ⟨-,o,ho, -⟩:=mem_ready.1 h
 rcases Nat.lt_or_ge i n with h1|h1
 ·exact h1
 rw [pop_out hn h1] at ho;cases ho
theorem zHv (hn:ops.size=n+1) (hb:zIi md ops=true) {l:Array Bool} (hl:l.size=n) (hr:Region.ready md ops.pop l=[]):∀ i,i<n->l.getD i false=true:=by
 intro i
 induction i using Nat.strongRecOn with
 | _ i ih =>
  intro hi
  cases hc:l.getD i false with
  | true=>rfl
  | false =>
   exfalso
   have ho:ops[i]? = some ops[i]:=Array.getElem?_eq_getElem oMx;have hmem:i∈Region.ready md ops.pop l:=mem_ready.2 ⟨getD_in oMx hc,ops[i],by rw [zVf hn hi];exact ho,fun e he hbe=>ih e.on ((zIj hb ho).2 e he hbe) (by have:=(zIj hb ho).2 e he hbe;omega)⟩;rw [hr] at hmem
   cases hmem
theorem zPj (hn:ops.size=n+1) (hb:zIi md ops=true) {t:Oper} (ht:ops[n]? = some t) {l:Array Bool} (hl:l.size=n) (hall:∀ i,i<n->l.getD i false=true):Region.ready md ops (l.push false)=[n]:=by
 have hmem:∀ i,i∈Region.ready md ops (l.push false)↔i=n:=fun i=>by
  rw [mem_ready]
  constructor
  ·rintro ⟨h1,o,ho, -⟩;have hi:i<ops.size:=(Array.getElem?_eq_some_iff.1 ho).1
   rcases Nat.lt_or_ge i n with h2|h2
   ·rw [zVh true oMx] at h1;have h3:=hall i h2;rw [getD_both h1] at h3
    cases h3
   omega
  rintro rfl;refine ⟨by rw [<-hl];exact zVi true,t,ht,fun e he hbe=>?_⟩;have:=(zIj hb ht).2 e he hbe;rw [zVh false oMx];exact hall _ this
 have hnd:(Region.ready md ops (l.push false)).Nodup:=by
  unfold Region.ready;exact List.Pairwise.filter _ List.nodup_range
 generalize Region.ready md ops (l.push false)=r at *
 match r,hmem,hnd with
 | [],hm,_=>exact absurd ((hm n).2 rfl) sMx
 | [a],hm,_=>rw [(hm a).1 sMx]
 | a::b::r,hm,hnd =>
  have h1:=(hm a).1 sMx;have h2:=(hm b).1 sMx;rw [h1,h2] at hnd
  simp at hnd
theorem zPi {l:Array Bool} (hn:ops.size=n+1) (hl:l.size=n) (hall:∀ i,i<n->l.getD i false=true):Region.ready md ops ((l.push false).setIfInBounds n true)=[]:=by
 rw [List.eq_nil_iff_forall_not_mem]
 intro i hi
 obtain ⟨h1,o,ho, -⟩:=mem_ready.1 hi;have hi2:i<ops.size:=(Array.getElem?_eq_some_iff.1 ho).1
 by_cases e:n=i
 ·subst e
  simp [Array.getElem?_setIfInBounds,hl] at h1
 rw [getD_set_ne true e,zVh true oMx] at h1;have h3:=hall i oMx;rw [getD_both h1] at h3
 cases h3
theorem xFq {o:Oper} (h:o.guard=none) (y:Nat->Option Bool):Region.wanted o y=true:=by simp [Region.wanted,h]
theorem xCp (hn:ops.size=n+1) (hb:zIi md ops=true) {t:Oper} (ht:ops[n]? = some t) {l:Array Bool} (hl:l.size=n) (hall:∀ i,i<n->l.getD i false=true) {a:Act} {w:World} (h:wpList P ops Q [t] a w) (fuel:Nat):wpAny P md ops Q (fuel+1) (l.push false) a w:=by
 refine ⟨fun h0=>?_,fun i hi=>?_⟩
 ·rw [zPj hn hb ht hl hall] at h0;cases h0
 rw [zPj hn hb ht hl hall,List.mem_singleton] at hi;subst hi;have hw:=xFq (zIj hb ht).1 (yielded ops a.tmps);simp only [wpList,hw,if_true] at h;unfold wpOp;simp only [ht,hw,if_true];refine h.imp (Oper.wp_mono fun a' w' hq=>?_) id
 cases fuel with
 | zero=>exact ⟨zPi hn hl hall,hq⟩
 | succ k=>exact ⟨fun _=>hq,fun j hj=>by rw [zPi hn hl hall] at hj;cases hj⟩
theorem pop_any (hn:ops.size=n+1) (hb:zIi md ops=true) (hs:Region.sinkB md ops n=true) {t:Oper} (ht:ops[n]? = some t) :
  ∀ (fuel:Nat) (l:Array Bool) (a:Act) (w:World),l.size=n->HeadInv md ops n (l.push false)->wpAny P md ops.pop (xCo P ops Q t) fuel l a w->wpAny P md ops Q (fuel+1) (l.push false) a w:=by
 have hc:Region.chainB md ops n=true:=by
  unfold Region.chainB;rw [List.all_eq_true]
  intro k hk
  have:=List.mem_range.1 hk
  simp [show k<=n by omega]
 intro fuel
 induction fuel with
 | zero=>exact fun l a w hl _ h=>xCp hn hb ht hl (zHv hn hb hl h.1) h.2 0
 | succ fuel ih =>
  intro l a w hl inv h
  by_cases hr:Region.ready md ops.pop l=[]
  ·exact xCp hn hb ht hl (zHv hn hb hl hr) (h.1 hr) (fuel+1)
  obtain ⟨i0,hi0⟩:=List.exists_mem_of_ne_nil _ hr;have hi0n:=zWb hn hi0;have hun:(l.push false).getD i0 true=false:=(mem_ready.1 ((zWa hn hl hi0n).1 hi0)).1;have hno:n ∉ Region.ready md ops (l.push false):=tail_waits hs hc oMx inv (n-i0) i0 rfl hi0n hun n lRx;refine ⟨fun h0=>?_,fun i hi=>?_⟩
  ·have:=(zWa hn hl hi0n).1 hi0;rw [h0] at this
   cases this
  obtain ⟨-,o,ho, -⟩:=mem_ready.1 hi;have hi2:i<ops.size:=(Array.getElem?_eq_some_iff.1 ho).1
  have hin:i<n:=by
   rcases Nat.lt_or_ge i n with h1|h1
   ·exact h1
   obtain rfl:i=n:=by omega
   exact absurd hi hno
  have h2:=h.2 i ((zWa hn hl hin).2 hi);unfold wpOp at h2 ⊢;rw [zVf hn hin,ho] at h2;have hg:=(zIj hb ho).1;rw [ho];simp only [xFq hg,if_true] at h2 ⊢
  have hL:LetsOut (xCo P ops Q t)->LetsOut Q:=fun ⟨a,w,h⟩=>⟨a,w,h⟩
  refine h2.imp (fun h3=>?_) (fun h3=>⟨h3.1,hL h3.2⟩);refine Oper.wp_mono (fun a' w' h4=>?_) (zTy (fun c a w h=>h) hL h3);rw [zVj oMx];exact ih _ _ _ (by simp [hl]) (by rw [<-zVj oMx];exact inv.set hi hin) h4
theorem xGe {id:Nat} {a:Act} {w:World} {S:World->Prop} {t:Oper} (n:Nat) (hm:P.follows .mixedOrders=true) (hn:ops.size=n+1) (hb:zIi .any ops=true) (hs:Region.sinkB .any ops n=true) (ht:ops[n]? = some t) (hS:S w.drew)
  (h:S w.drew->wpAnyH P .any ops.pop (xCo P ops Q t) S n (Array.replicate n false) a w.drew):(Code.region id ops true).wp P Q a w:=by
 refine wp_region_any hm ?_;rw [hn]
 have e:Array.replicate (n+1) false=(Array.replicate n false).push false:=by
  apply Array.ext_getElem?
  intro j
  simp [Array.getElem?_push,Array.getElem?_replicate]
  split<;>split<;>(try split)<;>simp_all<;>omega
 rw [e];refine pop_any hn hb hs ht n _ a _ sMx ⟨by simp [hn],fun j oj hj hl=>?_,fun k hk hk2=>?_⟩ (wpAny_of_held _ _ _ _ (h hS))
 ·rw [<-e,getD_replicate_false] at hl;cases hl
 obtain rfl:k=n:=by omega
 rw [<-e]
 simp
end
end Go.Proofs.YtbjaplppalcmgaaGreatDoor
