import Derived.Test.YtafflnognagadaaGreatDoorZB
set_option maxHeartbeats 16000000
set_option maxRecDepth 100000
namespace Go.Proofs.YtafflnognagadaaGreatDoor
open Go.RowKit
theorem field_L (w:World) (v0:Bool) (A:oAx) (l c:Nat):(Instr.field 133 (.agg #[.bool v0,.slice A l c]) 1).run Tryz.prog w = .ok (.slice A l c) w:=by kernel_rfl
attribute [go_sem] field_L
theorem zUm (ng:Bool) (A:oAx) (xs:List Nat) (c:Nat) (w:World) (hx:zAe .i64 w A xs) (hl:xs.length<=1000000000) (hlc:xs.length<=c) :
  Calls Tryz.prog 113 #[.agg #[.bool ng,.slice A xs.length c]] w fun e w'=>e = .returned (.agg #[.bool (ng&&decide (0<(zXh xs).length)),.slice A (zXh xs).length c])/\Below w.heap.size w w':=by
 have HX:=oH hx;clear hx
 go_enter Tryz.func113,Tryz.ntmps113
 go_wp2_with fail;have h1:=(Blk.new w 133 [.bool ng,.slice A xs.length c]).alloc (.cells #[.bool false,.slice none 0 0] 133);have h2:=Blk.new (w.alloc (.cells #[.bool ng,.slice A xs.length c] 133)) 133 [.bool false,.slice none 0 0];have h3:Below w.heap.size w ((w.alloc (.cells #[.bool ng,.slice A xs.length c] 133)).alloc (.cells #[.bool false,.slice none 0 0] 133)):=(bA).alloc sMx _;rw [World.size_alloc] at h2;generalize (w.alloc (.cells #[.bool ng,.slice A xs.length c] 133)).alloc (.cells #[.bool false,.slice none 0 0] 133)=W at *;have H1:=oH h1;have H2:=oH h2;have H3:=oH h3;clear h1 h2 h3
 go_loopg [] xs.length (fun k wr=>k<=xs.length/\zXh (xs.take k)=zXh xs/\Blk wr w.heap.size 133 [.bool ng,.slice A k c]/\Blk wr (w.heap.size+1) 133 [.bool false,.slice none 0 0]/\Below w.heap.size w wr)
 ·exact ⟨lRx,by rw [List.take_length],H1.out,H2.out,H3.out⟩
 obtain ⟨hk,ht,b1,b2,hb⟩:=hrel;have HT:=oH ht;have B1:=oH b1;have B2:=oH b2;have HB:=oH hb;have c0:wr.cell? ⟨w.heap.size,0,none⟩=some (.bool ng):=b1.at_ rfl;have c1:wr.cell? ⟨w.heap.size,1,none⟩=some (.slice A gk c):=b1.at_ rfl;have f0:=b1.fr 0;have f1:=b1.fr 1;have r0:wr.cell? ⟨w.heap.size+1,0,none⟩=some (.bool false):=b2.at_ rfl;have r1:wr.cell? ⟨w.heap.size+1,1,none⟩=some (.slice none 0 0):=b2.at_ rfl;have q0:=b2.fr 0;have q1:=b2.fr 1;clear ht b1 b2 hb H1 H2 H3
 rcases Nat.eq_zero_or_pos gk with h0|h0
 ·subst h0;have E:=oH (show zXh xs=[] by rw [<-HT.out];rfl);go_wp2_with fail;refine bodyPost_ret (v := .agg #[.bool false,.slice A 0 c]) (by simp [results,Tryz.results113,go_sem, *]) rfl ?_;exact ⟨by rw [E.out];simp,((HB.setCell (p:=⟨w.heap.size,0,none⟩) lRx _).setCell (p:=⟨w.heap.size+1,0,none⟩) (Nat.le_succ _) _).setCell (p:=⟨w.heap.size+1,1,none⟩) (Nat.le_succ _) _⟩
 obtain ⟨j,rfl⟩:∃ j,gk=j+1:=⟨gk-1,oMx⟩;obtain ⟨b,off,rfl,hbb,hc⟩:=HX.out (by intro e;subst e;simp at hk);have hci:wr.cell? ⟨b,off+j,none⟩=some (.int .i64 ((nth xs j:Nat):Int)):=(HB.cell (p:=⟨b,off+j,none⟩) hbb).trans (hc j oMx);clear hc HX
 by_cases hz:nth xs j=0
 ·have hz':(((nth xs j:Nat):Int)==0)=true:=by simp [hz]
  have E:=oH ((zXn xs j oMx hz).symm.trans HT.out);clear hz HT;go_wp2_with fail
  go_roundg j
  ·exact ⟨oMx,E.out,B1.set 1 _,B2.far (p:=⟨w.heap.size,1,none⟩) (by show w.heap.size+1≠w.heap.size;omega) _,HB.setCell (p:=⟨w.heap.size,1,none⟩) lRx _⟩
  omega
 have hz':(((nth xs j:Nat):Int)==0)=false:=by simp [hz]
 have E:=oH (HT.symm.trans (zXm xs j oMx hz));clear hz HT;go_wp2_with fail;refine bodyPost_ret (v := .agg #[.bool ng,.slice (some ⟨b,off,none⟩) (j+1) c]) (by simp [results,Tryz.results113,go_sem, *]) rfl ?_;exact ⟨by rw [E.out,List.length_take,Nat.min_eq_left hk];simp,(HB.setCell (p:=⟨w.heap.size+1,0,none⟩) (Nat.le_succ _) _).setCell (p:=⟨w.heap.size+1,1,none⟩) (Nat.le_succ _) _⟩
def zBt (w:World) (v:Value) (z:Int):Prop:=∃ A c,v = .agg #[.bool (decide (z<0)),.slice A (limbs z.natAbs).length c]/\(limbs z.natAbs).length<=c/\zAe .i64 w A (limbs z.natAbs)
theorem zBt.below {w w':World} {v:Value} {z:Int} (h:zBt w v z) (hb:Below w.heap.size w w'):zBt w' v z:=by
 obtain ⟨A,c,e,hl,hc⟩:=h;exact ⟨A,c,e,hl,hc.below hb⟩
def zFi (w:World) (z:Int) (e:Ending) (w':World):Prop:=∃ v,e = .returned v/\zBt w' v z/\Below w.heap.size w w'
def zVe (ng:Bool) (n:Nat):Int:=if ng then -(n:Int) else (n:Int)
theorem zVh (ng:Bool) (n:Nat):decide (zVe ng n<0)=(ng&&decide (0<(limbs n).length)):=by
 have h:0<(limbs n).length↔n≠0:=zPf
 cases ng
 ·simp [zVe]
 simp only [zVe,if_true,Bool.true_and]
 rw [decide_eq_decide,h];omega
theorem zVg (ng:Bool) (n:Nat):(zVe ng n).natAbs=n:=by cases ng<;>simp [zVe]
theorem zVi (z:Int):zVe (decide (z<0)) z.natAbs=z:=by
 unfold zVe
 by_cases h:z<0<;>simp [h]<;>omega
theorem zUn (ng:Bool) (v:Value) (xs:List Nat) (n:Nat) (w:World) (h:zBx w v xs) (hlow:Low xs) (hv:val xs=n) (hl:xs.length<=1000000000) :
  Calls Tryz.prog 113 #[.agg #[.bool ng,v]] w (zFi w (zVe ng n)):=by
 obtain ⟨A,c,rfl,hlc,hc⟩:=h;refine (zUm ng A xs c w hc hl hlc).mono ?_;rintro e w' ⟨rfl,hb⟩
 have et:zXh xs=limbs n:=by rw [<-zPm hlow,hv]
 have h2:=hc.take (zXh xs).length;rw [<-zXl,et] at h2;have h3:=zXi xs;rw [et] at h3 ⊢;exact ⟨_,rfl,⟨A,c,by rw [zVh,zVg],by rw [zVg];omega,by rw [zVg];exact h2.below hb⟩,hb⟩
theorem rtrim_A (ng:Bool) (A:oAx) (xs:List Nat) (n c:Nat) (w:World) (hc:zAe .i64 w A xs) (hlc:xs.length<=c) (hlow:Low xs) (hv:val xs=n) (hl:xs.length<=1000000000) :
  Calls Tryz.prog 113 #[.agg #[.bool ng,.slice A xs.length c]] w fun e w'=>∃ c',e = .returned (.agg #[.bool (decide (zVe ng n<0)),.slice A (limbs (zVe ng n).natAbs).length c'])/\(limbs (zVe ng n).natAbs).length<=c'/\zAe .i64 w' A (limbs (zVe ng n).natAbs)/\Below w.heap.size w w':=by
 refine (zUm ng A xs c w hc hl hlc).mono ?_;rintro e w' ⟨rfl,hb⟩
 have et:zXh xs=limbs n:=by rw [<-zPm hlow,hv]
 have h2:=hc.take (zXh xs).length;rw [<-zXl,et] at h2;have h3:=zXi xs;rw [et] at h3 ⊢;exact ⟨c,by rw [zVh,zVg],by rw [zVg];omega,by rw [zVg];exact h2.below hb,hb⟩
theorem zUa (A A':oAx) (a b c c':Nat) (w:World) (ha:zAe .i64 w A (limbs a)) (hb:zAe .i64 w A' (limbs b)) (hla:(limbs a).length<=1000000000) (_hlb:(limbs b).length<=1000000000) :
  Calls Tryz.prog 104 #[.slice A (limbs a).length c,.slice A' (limbs b).length c'] w fun e w'=>e = .returned (.int .i64 (zJx a b))/\Below w.heap.size w w':=by
 by_cases hne:(limbs a).length=(limbs b).length
 ·have HE:=oH hne
  have hq:(((limbs a).length:Int) != ((limbs b).length:Int))=false:=by simp [hne]
  clear hne
  go_enter Tryz.func104,Tryz.ntmps104
  go_wp2
  go_loopw [5] (fun n wr=>∃ (k:Nat) (m:Nat),k<=(limbs a).length/\n = .int .i64 ((k:Int)-1)/\wr=w.drewN m/\val ((limbs a).drop k)=val ((limbs b).drop k)) (fun n _=>(intOf n+1).toNat)
  ·exact ⟨(limbs a).length,0,lRx,rfl,rfl,by rw [List.drop_length,HE.out,List.drop_length]⟩
  obtain ⟨k,m,hk,rfl,rfl,hd⟩:=hrel;have HD:=oH hd;clear hd
  rcases Nat.eq_zero_or_pos k with h0|h0
  ·subst h0;have E:=oH (show zJx a b=0 from zJy (by have:=HD.out;simpa [zYj] using this));clear HD
   go_wp2
   go_ret
   exact ⟨by rw [E.out];rfl,below_drewN bRx _⟩
  obtain ⟨j,rfl⟩:∃ j,k=j+1:=⟨k-1,oMx⟩;obtain ⟨g,off,rfl,hg,hc⟩:=ha (by intro e;rw [e] at hk;simp at hk)
  have hj:j<(limbs b).length:=by have:=HE.out;omega
  obtain ⟨g',off',rfl,hg',hc'⟩:=hb (by intro e;rw [e] at hj;simp at hj);have hci:=hc j oMx;have hci':=hc' j oMx;clear hc hc' ha hb;have el:=zYl (i:=j) HE.out oMx (Low.limbs a) HD.out;have eg:=zYl (i:=j) HE.symm oMx (Low.limbs b) HD.symm;rw [zYj,zYj] at el eg;have HL:=oH el;have HG:=oH eg;clear el eg
  by_cases h1:nth (limbs a) j<nth (limbs b) j
  ·have E:=oH (zKa (HL.out h1))
   go_wp2
   go_quiet (fail)
   go_wp2
   go_ret
   exact ⟨by rw [E.out];rfl,by simp only [World.drewN_drewN];exact below_drewN bRx _⟩
  by_cases h2:nth (limbs b) j<nth (limbs a) j
  ·have E:=oH (zJz (HG.out h2))
   go_wp2
   go_quiet (fail)
   go_wp2
   go_quiet (fail)
   go_wp2
   go_ret
   exact ⟨by rw [E.out];rfl,by simp only [World.drewN_drewN];exact below_drewN bRx _⟩
  have E:=oH (show val ((limbs a).drop j)=val ((limbs b).drop j) by rw [zYh,zYh (limbs b),HD.out];omega);clear HD
  go_wp2
  go_quiet (fail)
  go_wp2
  go_quiet (fail)
  go_wp2
  go_roundw
  ·exact ⟨j,_,oMx,by go_num,rfl,E.out⟩
  simp [intOf]
 have hq:(((limbs a).length:Int) != ((limbs b).length:Int))=true:=by simp [bne_iff_ne];omega
 rcases Nat.lt_or_gt_of_ne hne with h|h
 ·have E:=oH (zKa (zPc h))
  go_enter Tryz.func104,Tryz.ntmps104
  go_wp2
  go_ret
  exact ⟨by rw [E.out];rfl,bRx⟩
 have E:=oH (zJz (zPc h))
 go_enter Tryz.func104,Tryz.ntmps104
 go_wp2
 go_ret
 exact ⟨by rw [E.out];rfl,bRx⟩
def RetLow (w:World) (n m:Nat) (e:Ending) (w':World):Prop:=∃ v xs,e = .returned v/\zBx w' v xs/\Low xs/\val xs=n/\xs.length<=m/\Below w.heap.size w w'
theorem zSa {w wr w1:World} {t e:TypeId} {v v' u:Value} {os:List Nat} {x:Nat} {X:Int} (h:wr.ownsRow w.heap.size e 1 v os.length (vn os)) (hb:Below w.heap.size w wr)
  (hown:w1.ownsRow w.heap.size e 1 v' (os.length+1) (vn os++[.int .i64 X])) (hg:(wr.alloc (.cells #[u] t)).grownBy w1 v.ownBlock) (hX:X=(x:Int)) :
  w1.ownsRow w.heap.size e 1 v' (os++[x]).length (vn (os++[x]))/\Below w.heap.size w w1:=by
 subst hX;refine ⟨?_,(hb.alloc hb.size _).grown hg (by have:=hb.size;simp;omega) (fun g hg'=>(h.lt g hg').1)⟩;rw [xAh,List.length_append];exact hown
def zFn (w:World) (n:Nat) (e:Ending) (w':World):Prop:=∃ v,e = .returned v/\zBx w' v (limbs n)/\Below w.heap.size w w'
theorem zUl (A:oAx) (a n c:Nat) (w:World) (ha:zAe .i64 w A (limbs a)) (hla:(limbs a).length<=100000000) (hn:n<1000000000) :
  Calls Tryz.prog 121 #[.slice A (limbs a).length c,.int .i64 (n:Int)] w (zFn w (n*a)):=by
 obtain ⟨i0,hi,hz0,hz1,hz2⟩:=info_parts Tryz.infoInt;have HLA:=oH (show ∀ i,nth (limbs a) i<1000000000 from (Low.limbs a).nth);have HA:=oH ha;clear ha
 go_enter Tryz.func121,Tryz.ntmps121
 go_wp2_with fail
 go_loopw [5,6,7] (fun v cy i wr=>∃ (k cr:Nat) (os:List Nat),k<=(limbs a).length+1/\i = .int .i64 (k:Int)/\cr<1000000000/\cy = .int .i64 (cr:Int)/\(k=(limbs a).length+1->cr=0)/\os.length=k/\Low os/\wr.ownsRow w.heap.size 3 1 v os.length (vn os)/\Below w.heap.size w wr/\val os+cr*1000000000^k=n*val ((limbs a).take k)) (fun _ _ i _=>(limbs a).length+1-(intOf i).toNat)
 ·exact ⟨0,0,[],oLx,rfl,oMx,rfl,oMx,rfl,Low.nil,World.ownsRow_nil _ _ _ _,bRx,by simp [val]⟩
 obtain ⟨k,cr,os,hk,rfl,hcr,rfl,hlast,hlen,hlow,hown,hbel,hv⟩:=hrel;have HLOW:=oH hlow;have HLEN:=oH hlen;have HOWN:=oH hown;have HBEL:=oH hbel;have HV:=oH hv;have HLAST:=oH hlast
 have hol:os.length<=100000001:=by omega
 have hsz:=hbel.size;have hxk:=HLA.out k;clear hlow hlen hown hbel hv hlast
 by_cases h1:k<(limbs a).length
 ·
  obtain ⟨g,off,eg,hg,hc⟩:=HA.out (by intro e;rw [e] at h1;simp at h1);subst eg;have hca:wr.cell? ⟨g,off+k,none⟩=some (.int .i64 ((nth (limbs a) k:Nat):Int)):=(HBEL.cell (p:=⟨g,off+k,none⟩) hg).trans (hc k h1);clear hc;have hm0:nth (limbs a) k*n<=999999999*999999999:=Nat.mul_le_mul oMx oMx
  have em:(nth (limbs a) k:Int)*(n:Int)=((nth (limbs a) k*n:Nat):Int):=by rw [Int.natCast_mul]
  have hm:(nth (limbs a) k:Int)*(n:Int)<=999999998000000001:=by rw [em];omega
  have hmp:0<=(nth (limbs a) k:Int)*(n:Int):=by rw [em];omega
  have EM:=oH em;clear em
  have HT:Hid ((cr:Int)+(nth (limbs a) k:Int)*(n:Int)=((cr+nth (limbs a) k*n:Nat):Int)):=by
   rw [EM.out];show _=_;omega
  have hcl:k<(limbs a).length+1:=by have:=HLAST.out;omega
  go_wp2_with (at_builtin;refine wpList_append_own _ rfl _ _ 22 rfl w.heap.size 3 i0 (.int .i64 0) 1 8 Tryz.underlying22 hi hz0 hz1 hz2 rfl dCx _ _ _ rfl (HOWN.alloc _) ⟨wr.heap.size,0,none⟩ 1 1 [_] rfl rfl zRj zRh (by unfold maxLen;omega) oMx (by simp;omega) ?_)
  intro v' w1 hown1 hgrow1 _
  obtain ⟨ho1,hb1⟩:=zSa HOWN.out HBEL.out hown1 hgrow1 (x:=(cr+nth (limbs a) k*n)%1000000000) (by rw [HT.out];rfl);have HO1:=oH ho1;have HB1:=oH hb1;clear hown1 hgrow1 ho1 hb1;go_wp2_with fail;go_roundw
  case rel =>
   have e1:((cr:Int)+(nth (limbs a) k:Int)*(n:Int))/1000000000=(((cr+nth (limbs a) k*n)/1000000000:Nat):Int):=by rw [HT.out];rfl
   rw [e1];refine ⟨k+1,_,_,oMx,by go_num,?_,rfl,?_,by simp [HLEN.out],HLOW.snoc (Nat.mod_lt _ oMx),HO1.out,HB1.out,zXg _ _ _ _ _ HLEN.out HV.out⟩
   ·generalize nth (limbs a) k*n=m at *;omega
   intro hkn
   rw [zQx oMx,Nat.zero_mul];omega
  simp [intOf];omega
 by_cases h3:0<cr
 ·
  have HT:Hid ((cr:Int)=((cr+nth (limbs a) k*n:Nat):Int)):=by
   rw [zQx (xs:=limbs a) (i:=k) oMx,Nat.zero_mul];show _=_;omega
  have hcl:k<(limbs a).length+1:=by have:=HLAST.out;omega
  have hcp:decide (0<(cr:Int))=true:=decide_eq_true oMx
  go_wp2_with (at_builtin;refine wpList_append_own _ rfl _ _ 22 rfl w.heap.size 3 i0 (.int .i64 0) 1 8 Tryz.underlying22 hi hz0 hz1 hz2 rfl dCx _ _ _ rfl (HOWN.alloc _) ⟨wr.heap.size,0,none⟩ 1 1 [_] rfl rfl zRj zRh (by unfold maxLen;omega) oMx (by simp;omega) ?_)
  intro v' w1 hown1 hgrow1 _
  obtain ⟨ho1,hb1⟩:=zSa HOWN.out HBEL.out hown1 hgrow1 (x:=(cr+nth (limbs a) k*n)%1000000000) (by rw [HT.out];rfl);have HO1:=oH ho1;have HB1:=oH hb1;clear hown1 hgrow1 ho1 hb1;go_wp2_with fail;go_roundw
  case rel =>
   have e1:((cr:Int))/1000000000=(((cr+nth (limbs a) k*n)/1000000000:Nat):Int):=by rw [HT.out];rfl
   rw [e1];refine ⟨k+1,_,_,oMx,by go_num,?_,rfl,?_,by simp [HLEN.out],HLOW.snoc (Nat.mod_lt _ oMx),HO1.out,HB1.out,zXg _ _ _ _ _ HLEN.out HV.out⟩
   ·rw [zQx (xs:=limbs a) (i:=k) oMx,Nat.zero_mul];omega
   intro hkn
   rw [zQx oMx,Nat.zero_mul];omega
  simp [intOf];omega
 have hcp:decide (0<(cr:Int))=false:=decide_eq_false oMx
 obtain rfl:cr=0:=by omega
 have E:=HV.out;rw [List.take_of_length_le oMx,zYj,Nat.zero_mul,Nat.add_zero] at E;have hrow:=zSc HOWN.out;have HTR:=oH (zUn false u5 os (n*a) wr hrow HLOW.out E (by have:=HLEN.out;omega));obtain ⟨A5,c5,rfl,hl5,hc5⟩:=hrow;clear E hl5 hc5 HOWN;go_wp2_with fail;refine HTR.mono ?_;rintro e w2 ⟨v2,rfl,⟨A2,c2,rfl,hl2,hc2⟩,hb2⟩;have e1:(zVe false (n*a)).natAbs=n*a:=zVg _ _;rw [e1] at hl2 hc2
 have HR:Hid (zFn w (n*a) (.returned (.slice A2 (limbs (zVe false (n*a)).natAbs).length c2)) w2):=by
  rw [e1];exact ⟨_,rfl,⟨A2,c2,rfl,hl2,hc2⟩,HBEL.trans (hb2.mono HBEL.size)⟩
 clear hl2 hc2 hb2 e1;go_wp2_with fail;go_ret
 exact HR.out
def brow:List Nat->Nat->List Value
 | [],_=>[]
 | x::xs,br => .int .i64 ((x:Int)-(br:Int))::vn xs
theorem zIi (xs:List Nat):brow xs 0=vn xs:=by cases xs<;>simp [brow,vn]
theorem zIh {xs:List Nat} {k:Nat} (h:k<xs.length) (br:Nat):brow (xs.drop k) br = .int .i64 ((nth xs k:Int)-(br:Int))::vn (xs.drop (k+1)):=by
 rw [List.drop_eq_getElem_cons h,brow,zQz h]
theorem xAe {xs:List Nat} {k:Nat} (h:k<xs.length):vn (xs.drop k) = .int .i64 (nth xs k:Int)::vn (xs.drop (k+1)):=by
 rw [List.drop_eq_getElem_cons h,zQz h];rfl
theorem zTy (os:List Nat) (u u':Value) (l:List Value):(vn os++u::l).set os.length u'=vn os++u'::l:=by
 rw [<-xAg os,List.set_append_right _ _ lRx];simp
theorem zTz (os:List Nat) (a u u':Value) (l:List Value):(vn os++a::u::l).set (os.length+1) u'=vn os++a::u'::l:=by
 rw [<-xAg os,List.set_append_right _ _ oMx];simp
theorem row_at (os:List Nat) (u:Value) (l:List Value):(vn os++u::l)[os.length]? = some u:=by rw [<-xAg os];simp
theorem zTw (os:List Nat) (a u:Value) (l:List Value):(vn os++a::u::l)[os.length+1]? = some u:=by
 rw [<-xAg os,List.getElem?_append_right oMx];simp
theorem zTx (os:List Nat) (n:Nat) (l:List Value):vn os ++ .int .i64 (n:Int)::l=vn (os++[n])++l:=by simp [vn]
theorem zTs (A A':oAx) (a b c c':Nat) (w:World) (ha:zAe .i64 w A (limbs a)) (hb:zAe .i64 w A' (limbs b)) (hla:(limbs a).length<=100000000) (_hlb:(limbs b).length<=100000000) (hab:b<=a) (ha0:0<a) :
  Calls Tryz.prog 122 #[.slice A (limbs a).length c,.slice A' (limbs b).length c'] w (RetLow w (a-b) (limbs a).length):=by
 obtain ⟨i0,hi,hz0,hz1,hz2⟩:=info_parts Tryz.infoInt;have hl0:0<(limbs a).length:=zPf.2 oMx;have HLA:=oH (show ∀ i,nth (limbs a) i<1000000000 from (Low.limbs a).nth);have HLB:=oH (show ∀ i,nth (limbs b) i<1000000000 from (Low.limbs b).nth);have HAB:=oH hab;have HB:=oH hb;obtain ⟨g,off,eg,hg,hc⟩:=ha (by intro e;rw [e] at hl0;simp at hl0);subst eg;have HC:=oH hc
 have HW0:Hid (∀ (j:Nat) (u:Value),(vn (limbs a))[j]? = some u->w.cell? ((⟨g,off,none⟩:Addr).add j)=some u):=by
  intro j u hj
  have hjl:j<(limbs a).length:=by
   rcases Nat.lt_or_ge j (limbs a).length with h|h
   ·exact h
   rw [List.getElem?_eq_none (by rw [xAg];exact h)] at hj;cases hj
  rw [xAf hjl] at hj;rw [show (⟨g,off,none⟩:Addr).add j=⟨g,off+j,none⟩ by unfold Addr.add;split<;>simp_all,HC.out j hjl,hj]
 clear ha hb hab hc
 go_enter Tryz.func122,Tryz.ntmps122
 go_wp2_with (at_builtin;refine wpList_append_own _ rfl _ _ 22 rfl w.heap.size 3 i0 (.int .i64 0) 1 8 Tryz.underlying22 hi hz0 hz1 hz2 rfl dCx _ _ _ rfl (World.ownsRow_nil _ _ _ _) ⟨g,off,none⟩ (limbs a).length c (vn (limbs a)) rfl (by rw [xAg];omega) HW0.out (by intro u hu;simp [vn] at hu;obtain ⟨x,_,rfl⟩:=hu;rfl) (by unfold maxLen;omega) oMx lRx ?_)
 intro v' w1 hown1 hgrow1 _
 obtain ⟨h,cap,rfl,hBh,hlt1⟩:=hown1.form hl0;have hbel1:Below w.heap.size w w1:=bRx.grown hgrow1 lRx (fun k hk=>by simp [Value.ownBlock] at hk);have HOWN1:=oH hown1;have HBEL1:=oH hbel1;clear hown1 hgrow1 hbel1 hi hz0 hz1 hz2 HW0;go_wp2_with fail
 go_loopw [6] (fun i wr=>∃ (k br:Nat) (os:List Nat),k<=(limbs a).length/\i = .int .i64 (k:Int)/\br<=1/\os.length=k/\Low os/\wr.ownsRow w.heap.size 3 1 (.slice (some ⟨h,0,none⟩) (limbs a).length cap) (limbs a).length (vn os++brow ((limbs a).drop k) br)/\Below w.heap.size w wr/\val os+val ((limbs b).take k)=val ((limbs a).take k)+br*1000000000^k) (fun i _=>(limbs a).length-(intOf i).toNat)
 ·exact ⟨0,0,[],oLx,rfl,oMx,rfl,Low.nil,by rw [List.drop_zero,zIi];exact HOWN1.out,HBEL1.out,by simp [val]⟩
 obtain ⟨k,br,os,hk,rfl,hbr,hlen,hlow,hown,hbel,hv⟩:=hrel;have HLOW:=oH hlow;have HOWN:=oH hown;have HBEL:=oH hbel;have HV:=oH hv;have hsz:=hbel.size;have hxk:=HLA.out k;have hyk:=HLB.out k;subst hlen;clear hlow hown hbel hv HOWN1 HBEL1
 by_cases hlt:os.length<(limbs a).length
 ·have hrow:=HOWN.out;rw [zIh hlt] at hrow;have hcell:wr.cell? ⟨h,os.length,none⟩=some (.int .i64 ((nth (limbs a) os.length:Int)-(br:Int))):=(hrow.cellAt os.length oMx).trans (row_at _ _ _);have hfr:=hrow.frozenAt os.length;have HROW:=oH hrow;have HST:=oH (zWs (limbs a) (limbs b) os os.length br rfl hxk hyk hbr HV.out);clear hrow HOWN
  by_cases h2:os.length<(limbs b).length
  ·by_cases h3:(nth (limbs a) os.length:Int)-(br:Int)-(nth (limbs b) os.length:Int)<0
   ·
    have HLIM:Hid (∀ br',val (os++[(nth (limbs a) os.length+1000000000-nth (limbs b) os.length-br)%1000000000])+val ((limbs b).take (os.length+1))=val ((limbs a).take (os.length+1))+br'*1000000000^(os.length+1)->os.length+1=(limbs a).length->br'=0):=fun br' e h1=>by
     rw [h1] at e;exact zQa HAB.out (by simp [h1]) (HLOW.snoc (Nat.mod_lt _ oMx)) e
    obtain ⟨g',off',eg',hg',hc'⟩:=HB.out (by intro e;rw [e] at h2;simp at h2);subst eg';have hcb:wr.cell? ⟨g',off'+os.length,none⟩=some (.int .i64 ((nth (limbs b) os.length:Nat):Int)):=(HBEL.cell (p:=⟨g',off'+os.length,none⟩) hg').trans (hc' os.length h2);clear hc'
    have hneg:(nth (limbs a) os.length:Int)-(br:Int)-(nth (limbs b) os.length:Int)<0:=by omega
    have em:(nth (limbs a) os.length+1000000000-nth (limbs b) os.length-br)%1000000000=(nth (limbs a) os.length+1000000000-nth (limbs b) os.length-br):=Nat.mod_eq_of_lt oMx;have ed:(nth (limbs a) os.length+1000000000-nth (limbs b) os.length-br)/1000000000=0:=Nat.div_eq_of_lt oMx;have hST:=HST.out;rw [ed] at hST
    have hk1:os.length+1<(limbs a).length:=by have:=HLIM.out 1 hST;omega
    rw [em] at hST;have HST2:=oH hST;have EM:=oH em;have hrow:=HROW.out;rw [xAe hk1] at hrow;have hcell1:wr.cell? ⟨h,os.length+1,none⟩=some (.int .i64 (nth (limbs a) (os.length+1):Int)):=(hrow.cellAt (os.length+1) oMx).trans (zTw _ _ _ _);have hfr1:=hrow.frozenAt (os.length+1);have hx1:=HLA.out (os.length+1);have HROW2:=oH hrow;clear em ed hST hrow HST;go_wp2_with fail
    go_region
    go_wp2_with fail;go_roundw
    case rel =>
     refine ⟨os.length+1,1,os++[(nth (limbs a) os.length+1000000000-nth (limbs b) os.length-br)],oMx,by go_num,oMx,by simp,HLOW.snoc oMx,?_,?_,by have:=HST2.out;simpa using this⟩
     ·have h1:=(((HROW2.stored (os.length) (.int .i64 ((nth (limbs a) os.length:Int)-(br:Int)-(nth (limbs b) os.length:Int)))).1.stored (os.length) (.int .i64 ((nth (limbs a) os.length:Int)-(br:Int)-(nth (limbs b) os.length:Int)+1000000000))).1.stored (os.length+1) (.int .i64 ((nth (limbs a) (os.length+1):Int)-1))).1;rw [zTy,zTy,zTz] at h1
      have eX:(nth (limbs a) os.length:Int)-(br:Int)-(nth (limbs b) os.length:Int)+1000000000=(((nth (limbs a) os.length+1000000000-nth (limbs b) os.length-br):Nat):Int):=by omega
      rw [zIh hk1,<-zTx,<-eX];exact h1
     exact (((HBEL.setCell (p:=⟨h,os.length,none⟩) hBh _).setCell (p:=⟨h,os.length,none⟩) hBh _).setCell (p:=⟨h,os.length+1,none⟩) hBh _).drew
    simp [intOf];omega
    
   have HLIM:Hid (∀ br',val (os++[(nth (limbs a) os.length+1000000000-nth (limbs b) os.length-br)%1000000000])+val ((limbs b).take (os.length+1))=val ((limbs a).take (os.length+1))+br'*1000000000^(os.length+1)->os.length+1=(limbs a).length->br'=0):=fun br' e h1=>by
    rw [h1] at e;exact zQa HAB.out (by simp [h1]) (HLOW.snoc (Nat.mod_lt _ oMx)) e
   obtain ⟨g',off',eg',hg',hc'⟩:=HB.out (by intro e;rw [e] at h2;simp at h2);subst eg';have hcb:wr.cell? ⟨g',off'+os.length,none⟩=some (.int .i64 ((nth (limbs b) os.length:Nat):Int)):=(HBEL.cell (p:=⟨g',off'+os.length,none⟩) hg').trans (hc' os.length h2);clear hc'
   have hneg:¬(nth (limbs a) os.length:Int)-(br:Int)-(nth (limbs b) os.length:Int)<0:=by omega
   have em:(nth (limbs a) os.length+1000000000-nth (limbs b) os.length-br)%1000000000=nth (limbs a) os.length-br-nth (limbs b) os.length:=by rw [show (nth (limbs a) os.length+1000000000-nth (limbs b) os.length-br)=nth (limbs a) os.length-br-nth (limbs b) os.length+1000000000 by omega,Nat.add_mod_right];exact Nat.mod_eq_of_lt oMx
   have ed:(nth (limbs a) os.length+1000000000-nth (limbs b) os.length-br)/1000000000=1:=by omega
   have hST:=HST.out;rw [ed,em] at hST;have HST2:=oH hST;clear em ed hST HST;go_wp2_with fail
   go_region
   go_wp2_with fail;go_roundw
   case rel =>
    refine ⟨os.length+1,0,os++[(nth (limbs a) os.length-br-nth (limbs b) os.length)],oMx,by go_num,oMx,by simp,HLOW.snoc oMx,?_,?_,by have:=HST2.out;simpa using this⟩
    ·have h1:=(HROW.stored (os.length) (.int .i64 ((nth (limbs a) os.length:Int)-(br:Int)-(nth (limbs b) os.length:Int)))).1;rw [zTy] at h1
     have eX:(nth (limbs a) os.length:Int)-(br:Int)-(nth (limbs b) os.length:Int)=(((nth (limbs a) os.length-br-nth (limbs b) os.length):Nat):Int):=by omega
     rw [zIi,<-zTx,<-eX];exact h1
    exact (HBEL.setCell (p:=⟨h,os.length,none⟩) hBh _).drew
   simp [intOf];omega
  by_cases h3:(nth (limbs a) os.length:Int)-(br:Int)<0
  ·
   have HLIM:Hid (∀ br',val (os++[(nth (limbs a) os.length+1000000000-nth (limbs b) os.length-br)%1000000000])+val ((limbs b).take (os.length+1))=val ((limbs a).take (os.length+1))+br'*1000000000^(os.length+1)->os.length+1=(limbs a).length->br'=0):=fun br' e h1=>by
    rw [h1] at e;exact zQa HAB.out (by simp [h1]) (HLOW.snoc (Nat.mod_lt _ oMx)) e
   have hy0:=zQx (xs:=limbs b) (i:=os.length) oMx;have HY0:=oH hy0;clear hy0
   have hneg:(nth (limbs a) os.length:Int)-(br:Int)<0:=by have:=HY0.out;omega
   have em:(nth (limbs a) os.length+1000000000-nth (limbs b) os.length-br)%1000000000=(nth (limbs a) os.length+1000000000-nth (limbs b) os.length-br):=Nat.mod_eq_of_lt (by have:=HY0.out;omega);have ed:(nth (limbs a) os.length+1000000000-nth (limbs b) os.length-br)/1000000000=0:=Nat.div_eq_of_lt (by have:=HY0.out;omega);have hST:=HST.out;rw [ed] at hST
   have hk1:os.length+1<(limbs a).length:=by have:=HLIM.out 1 hST;omega
   rw [em] at hST;have HST2:=oH hST;have EM:=oH em;have hrow:=HROW.out;rw [xAe hk1] at hrow;have hcell1:wr.cell? ⟨h,os.length+1,none⟩=some (.int .i64 (nth (limbs a) (os.length+1):Int)):=(hrow.cellAt (os.length+1) oMx).trans (zTw _ _ _ _);have hfr1:=hrow.frozenAt (os.length+1);have hx1:=HLA.out (os.length+1);have HROW2:=oH hrow;clear em ed hST hrow HST;go_wp2_with fail;go_roundw
   case rel =>
    refine ⟨os.length+1,1,os++[(nth (limbs a) os.length+1000000000-nth (limbs b) os.length-br)],oMx,by go_num,oMx,by simp,HLOW.snoc (by have:=HY0.out;omega),?_,?_,by have:=HST2.out;simpa using this⟩
    ·have h1:=((HROW2.stored (os.length) (.int .i64 ((nth (limbs a) os.length:Int)-(br:Int)+1000000000))).1.stored (os.length+1) (.int .i64 ((nth (limbs a) (os.length+1):Int)-1))).1;rw [zTy,zTz] at h1
     have eX:(nth (limbs a) os.length:Int)-(br:Int)+1000000000=(((nth (limbs a) os.length+1000000000-nth (limbs b) os.length-br):Nat):Int):=by have:=HY0.out;omega
     rw [zIh hk1,<-zTx,<-eX];exact h1
    exact ((HBEL.setCell (p:=⟨h,os.length,none⟩) hBh _).setCell (p:=⟨h,os.length+1,none⟩) hBh _)
   simp [intOf];omega
    
  have HLIM:Hid (∀ br',val (os++[(nth (limbs a) os.length+1000000000-nth (limbs b) os.length-br)%1000000000])+val ((limbs b).take (os.length+1))=val ((limbs a).take (os.length+1))+br'*1000000000^(os.length+1)->os.length+1=(limbs a).length->br'=0):=fun br' e h1=>by
   rw [h1] at e;exact zQa HAB.out (by simp [h1]) (HLOW.snoc (Nat.mod_lt _ oMx)) e
  have hy0:=zQx (xs:=limbs b) (i:=os.length) oMx;have HY0:=oH hy0;clear hy0
  have hneg:¬(nth (limbs a) os.length:Int)-(br:Int)<0:=by have:=HY0.out;omega
  have em:(nth (limbs a) os.length+1000000000-nth (limbs b) os.length-br)%1000000000=nth (limbs a) os.length-br-nth (limbs b) os.length:=by rw [show (nth (limbs a) os.length+1000000000-nth (limbs b) os.length-br)=nth (limbs a) os.length-br-nth (limbs b) os.length+1000000000 by have:=HY0.out;omega,Nat.add_mod_right];exact Nat.mod_eq_of_lt oMx
  have ed:(nth (limbs a) os.length+1000000000-nth (limbs b) os.length-br)/1000000000=1:=by have:=HY0.out;omega
  have hST:=HST.out;rw [ed,em] at hST;have HST2:=oH hST;clear em ed hST HST;go_wp2_with fail;go_roundw
  case rel =>
   refine ⟨os.length+1,0,os++[(nth (limbs a) os.length-br-nth (limbs b) os.length)],oMx,by go_num,oMx,by simp,HLOW.snoc (by have:=HY0.out;omega),?_,?_,by have:=HST2.out;simpa using this⟩
   ·have h1:=HROW.out
    have eX:(nth (limbs a) os.length:Int)-(br:Int)=(((nth (limbs a) os.length-br-nth (limbs b) os.length):Nat):Int):=by have:=HY0.out;omega
    rw [zIi,<-zTx,<-eX];exact h1
   exact HBEL.out
  simp [intOf];omega
 have hlen:os.length=(limbs a).length:=by omega
 have h0:=HV.out;rw [hlen] at h0;have hbr0:=zQa HAB.out hlen HLOW.out h0;rw [hbr0,List.take_of_length_le (zPd HAB.out),List.take_length,zYj,zYj,Nat.zero_mul,Nat.add_zero] at h0
 have hrow:zBx wr (.slice (some ⟨h,0,none⟩) (limbs a).length cap) os:=by
  have h1:=HOWN.out;rw [List.drop_eq_nil_of_le oMx,show brow [] br=[] from rfl,List.append_nil,<-hlen] at h1;rw [<-hlen];exact zSc h1
 have HE:=oH (show val os=a-b by omega);have HROW:=oH hrow;clear h0 hrow hbr0;go_wp2_with fail;go_ret
 exact ⟨_,os,rfl,HROW.out,HLOW.out,HE.out,oMx,HBEL.out⟩
theorem zOp (a b:Nat):(limbs (a*b)).length<=(limbs a).length+(limbs b).length:=by
 apply zPb
 rw [Nat.pow_add];exact Nat.mul_lt_mul'' (zPg a) (zPg b)
structure BB (w W:World) (n0 n1:Bool) (s0 s1:Value):Prop where
 k0:Blk W w.heap.size 133 [.bool n0,s0]
 k1:Blk W (w.heap.size+1) 133 [.bool n1,s1]
 k2:Blk W (w.heap.size+1+1) 133 [.bool false,.slice none 0 0]
 bel:Below w.heap.size w W
section
variable {w W W':World} {n0 n1:Bool} {s0 s1:Value}
theorem BB.new (w:World) (n0 n1:Bool) (s0 s1:Value):BB w (((w.alloc (.cells #[.bool n0,s0] 133)).alloc (.cells #[.bool n1,s1] 133)).alloc (.cells #[.bool false,.slice none 0 0] 133)) n0 n1 s0 s1:=by
 have h1:=(Blk.new (w.alloc (.cells #[.bool n0,s0] 133)) 133 [.bool n1,s1]).alloc (.cells #[.bool false,.slice none 0 0] 133);have h2:=Blk.new ((w.alloc (.cells #[.bool n0,s0] 133)).alloc (.cells #[.bool n1,s1] 133)) 133 [.bool false,.slice none 0 0];rw [World.size_alloc] at h1;rw [World.size_alloc,World.size_alloc] at h2;exact ⟨((Blk.new w 133 [.bool n0,s0]).alloc _).alloc _,h1,h2,((bA).alloc sMx _).alloc (by simp;omega) _⟩
theorem BB.below (h:BB w W n0 n1 s0 s1) (hb:Below W.heap.size W W'):BB w W' n0 n1 s0 s1 :=
 ⟨h.k0.below hb,h.k1.below hb,h.k2.below hb,h.bel.trans (hb.mono (Nat.le_of_lt h.k0.lt))⟩
abbrev zBd (w W:World) (n0 n1:Bool) (s0 s1:Value):Prop:=W.cell? ⟨w.heap.size,0,none⟩=some (.bool n0)/\W.cell? ⟨w.heap.size,1,none⟩=some s0/\W.cell? ⟨w.heap.size+1,0,none⟩=some (.bool n1)/\W.cell? ⟨w.heap.size+1,1,none⟩=some s1
theorem BB.four (h:BB w W n0 n1 s0 s1):zBd w W n0 n1 s0 s1:=⟨h.k0.at_ rfl,h.k0.at_ rfl,h.k1.at_ rfl,h.k1.at_ rfl⟩
end
theorem zAe.aside {k:IntKind} {w:World} {A:oAx} {xs:List Nat} {g:Nat} {t:TypeId} {cs:List Value} (h:zAe k w A xs) (hg:Blk w g t cs) (hno:∀ (i:Nat) (n:Int),cs[i]? ≠ some (.int k n)) (i:Nat) (u:Value) :
  zAe k (w.setCell ⟨g,i,none⟩ u) A xs:=by
 intro hne
 obtain ⟨b,off,rfl,hb,hc⟩:=h hne
 have hbg:b≠g:=by
  rintro rfl;have h0:=hc 0 (by rcases xs with _|⟨x,xs⟩;exact absurd rfl hne;simp);rw [hg.cell] at h0;exact hno _ _ h0
 refine ⟨b,off,rfl,by simpa [World.setCell] using hb,fun j hj=>?_⟩;exact (World.cell?_of_block (w:=w) (Below.heap_setCell w ⟨g,i,none⟩ u b hbg)).trans (hc j hj)
theorem zQk {k:IntKind} {b:Bool} {A:oAx} {l c:Nat}:∀ (i:Nat) (n:Int),([.bool b,.slice A l c]:List Value)[i]? ≠ some (.int k n):=by
 intro i n
 match i with
 | 0=>simp
 | 1=>simp
 | i+2=>simp
theorem big_end {w W:World} {g:Nat} {A:oAx} {c:Nat} {x y:Int} (hk:Blk W g 133 [.bool false,.slice none 0 0]) (hb:Below w.heap.size w W) (hg:w.heap.size<=g) (hc:zAe .i64 W A (limbs x.natAbs)) (hl:(limbs x.natAbs).length<=c) (e:x=y) :
  zFi w y (.returned (.agg #[.bool (decide (x<0)),.slice A (limbs x.natAbs).length c])) ((W.setCell ⟨g,0,none⟩ (.bool (decide (x<0)))).setCell ⟨g,1,none⟩ (.slice A (limbs x.natAbs).length c)):=by
 subst e;exact ⟨_,rfl,⟨A,c,rfl,hl,(hc.aside hk zQk 0 _).aside (hk.set 0 _) zQk 1 _⟩,(hb.setCell (p:=⟨g,0,none⟩) hg _).setCell (p:=⟨g,1,none⟩) hg _⟩
def FreshV (w:World) (v:Value):Prop:=∃ nb A l c,v = .agg #[.bool nb,.slice A l c]/\∀ b off,A=some ⟨b,off,none⟩->w.heap.size<=b
def zFh (w:World) (z:Int) (e:Ending) (w':World):Prop:=∃ v,e = .returned v/\zBt w' v z/\Below w.heap.size w w'/\FreshV w v
theorem zFh.n {w:World} {z:Int} {e:Ending} {w':World} (h:zFh w z e w'):zFi w z e w':=by
 obtain ⟨v,e,h1,h2,_⟩:=h;exact ⟨v,e,h1,h2⟩
theorem zIb {w W:World} {g:Nat} {A:oAx} {c:Nat} {x y:Int} (hk:Blk W g 133 [.bool false,.slice none 0 0]) (hb:Below w.heap.size w W) (hg:w.heap.size<=g) (hc:zAe .i64 W A (limbs x.natAbs)) (hl:(limbs x.natAbs).length<=c) (e:x=y) (hA:∀ b off,A=some ⟨b,off,none⟩->w.heap.size<=b) :
  zFh w y (.returned (.agg #[.bool (decide (x<0)),.slice A (limbs x.natAbs).length c])) ((W.setCell ⟨g,0,none⟩ (.bool (decide (x<0)))).setCell ⟨g,1,none⟩ (.slice A (limbs x.natAbs).length c)):=by
 subst e;exact ⟨_,rfl,⟨A,c,rfl,hl,(hc.aside hk zQk 0 _).aside (hk.set 0 _) zQk 1 _⟩,(hb.setCell (p:=⟨g,0,none⟩) hg _).setCell (p:=⟨g,1,none⟩) hg _,⟨_,A,_,c,rfl,hA⟩⟩
def Prod (w wr:World) (na nb:Bool) (s0 s1:Value) (g n:Nat) (r:List Nat):Prop:=r.length=n/\Low r/\Row .i64 wr g 3 r/\BB w wr na nb s0 s1
end Go.Proofs.YtafflnognagadaaGreatDoor
