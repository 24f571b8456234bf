import Derived.Test.YtbjaplppalcmgaaGreatDoorZB
set_option maxHeartbeats 16000000
set_option maxRecDepth 100000
namespace Go.Proofs.YtbjaplppalcmgaaGreatDoor
open Go.RowKit
theorem field_L (w:World) (v0:Bool) (A:oAx) (l c:Nat):(Instr.field 85 (.agg #[.bool v0,.slice A l c]) 1).run Tryz.prog w = .ok (.slice A l c) w:=by kernel_rfl
attribute [go_sem] field_L
theorem zYb (ng:Bool) (A:oAx) (xs:List Nat) (c:Nat) (w:World) (hx:zAe .i64 w A xs) (hl:xs.length<=1000000000) (hlc:xs.length<=c) :
  Calls Tryz.prog 116 #[.agg #[.bool ng,.slice A xs.length c]] w fun e w'=>e = .returned (.agg #[.bool (ng&&decide (0<(xDa xs).length)),.slice A (xDa xs).length c])/\Below w.heap.size w w':=by
 have HX:=oH hx;clear hx
 go_enter Tryz.func116,Tryz.ntmps116
 go_wp2_with fail;have h1:=(Blk.new w 85 [.bool ng,.slice A xs.length c]).alloc (.cells #[.bool false,.slice none 0 0] 85);have h2:=Blk.new (w.alloc (.cells #[.bool ng,.slice A xs.length c] 85)) 85 [.bool false,.slice none 0 0];have h3:Below w.heap.size w ((w.alloc (.cells #[.bool ng,.slice A xs.length c] 85)).alloc (.cells #[.bool false,.slice none 0 0] 85)):=(bA).alloc sMx _;rw [World.size_alloc] at h2;generalize (w.alloc (.cells #[.bool ng,.slice A xs.length c] 85)).alloc (.cells #[.bool false,.slice none 0 0] 85)=W at *;have H1:=oH h1;have H2:=oH h2;have H3:=oH h3;clear h1 h2 h3
 go_loopg [] xs.length (fun k wr=>k<=xs.length/\xDa (xs.take k)=xDa xs/\Blk wr w.heap.size 85 [.bool ng,.slice A k c]/\Blk wr (w.heap.size+1) 85 [.bool false,.slice none 0 0]/\Below w.heap.size w wr)
 ·exact ⟨lRx,by rw [List.take_length],H1.out,H2.out,H3.out⟩
 obtain ⟨hk,ht,b1,b2,hb⟩:=hrel;have HT:=oH ht;have B1:=oH b1;have B2:=oH b2;have HB:=oH hb;have c0:wr.cell? ⟨w.heap.size,0,none⟩=some (.bool ng):=b1.at_ rfl;have c1:wr.cell? ⟨w.heap.size,1,none⟩=some (.slice A gk c):=b1.at_ rfl;have f0:=b1.fr 0;have f1:=b1.fr 1;have r0:wr.cell? ⟨w.heap.size+1,0,none⟩=some (.bool false):=b2.at_ rfl;have r1:wr.cell? ⟨w.heap.size+1,1,none⟩=some (.slice none 0 0):=b2.at_ rfl;have q0:=b2.fr 0;have q1:=b2.fr 1;clear ht b1 b2 hb H1 H2 H3
 rcases Nat.eq_zero_or_pos gk with h0|h0
 ·subst h0;have E:=oH (show xDa xs=[] by rw [<-HT.out];rfl);go_wp2_with fail;refine bodyPost_ret (v := .agg #[.bool false,.slice A 0 c]) (by simp [results,Tryz.results116,go_sem, *]) rfl ?_;exact ⟨by rw [E.out];simp,((HB.setCell (p:=⟨w.heap.size,0,none⟩) lRx _).setCell (p:=⟨w.heap.size+1,0,none⟩) (Nat.le_succ _) _).setCell (p:=⟨w.heap.size+1,1,none⟩) (Nat.le_succ _) _⟩
 obtain ⟨j,rfl⟩:∃ j,gk=j+1:=⟨gk-1,oMx⟩;obtain ⟨b,off,rfl,hbb,hc⟩:=HX.out (by intro e;subst e;simp at hk);have hci:wr.cell? ⟨b,off+j,none⟩=some (.int .i64 ((nth xs j:Nat):Int)):=(HB.cell (p:=⟨b,off+j,none⟩) hbb).trans (hc j oMx);clear hc HX
 by_cases hz:nth xs j=0
 ·have hz':(((nth xs j:Nat):Int)==0)=true:=by simp [hz]
  have E:=oH ((xDg xs j oMx hz).symm.trans HT.out);clear hz HT;go_wp2_with fail
  go_roundg j
  ·exact ⟨oMx,E.out,B1.set 1 _,B2.far (p:=⟨w.heap.size,1,none⟩) (by show w.heap.size+1≠w.heap.size;omega) _,HB.setCell (p:=⟨w.heap.size,1,none⟩) lRx _⟩
  omega
 have hz':(((nth xs j:Nat):Int)==0)=false:=by simp [hz]
 have E:=oH (HT.symm.trans (xDf xs j oMx hz));clear hz HT;go_wp2_with fail;refine bodyPost_ret (v := .agg #[.bool ng,.slice (some ⟨b,off,none⟩) (j+1) c]) (by simp [results,Tryz.results116,go_sem, *]) rfl ?_;exact ⟨by rw [E.out,List.length_take,Nat.min_eq_left hk];simp,(HB.setCell (p:=⟨w.heap.size+1,0,none⟩) (Nat.le_succ _) _).setCell (p:=⟨w.heap.size+1,1,none⟩) (Nat.le_succ _) _⟩
def zBm (w:World) (v:Value) (z:Int):Prop:=∃ A c,v = .agg #[.bool (decide (z<0)),.slice A (limbs z.natAbs).length c]/\(limbs z.natAbs).length<=c/\zAe .i64 w A (limbs z.natAbs)
theorem zBm.below {w w':World} {v:Value} {z:Int} (h:zBm w v z) (hb:Below w.heap.size w w'):zBm w' v z:=by
 obtain ⟨A,c,e,hl,hc⟩:=h;exact ⟨A,c,e,hl,hc.below hb⟩
def zFm (w:World) (z:Int) (e:Ending) (w':World):Prop:=∃ v,e = .returned v/\zBm w' v z/\Below w.heap.size w w'
def zZc (ng:Bool) (n:Nat):Int:=if ng then -(n:Int) else (n:Int)
theorem zZf (ng:Bool) (n:Nat):decide (zZc ng n<0)=(ng&&decide (0<(limbs n).length)):=by
 have h:0<(limbs n).length↔n≠0:=zQg
 cases ng
 ·simp [zZc]
 simp only [zZc,if_true,Bool.true_and]
 rw [decide_eq_decide,h];omega
theorem zZe (ng:Bool) (n:Nat):(zZc ng n).natAbs=n:=by cases ng<;>simp [zZc]
theorem zZg (z:Int):zZc (decide (z<0)) z.natAbs=z:=by
 unfold zZc
 by_cases h:z<0<;>simp [h]<;>omega
theorem zYc (ng:Bool) (v:Value) (xs:List Nat) (n:Nat) (w:World) (h:zBu w v xs) (hlow:Low xs) (hv:val xs=n) (hl:xs.length<=1000000000) :
  Calls Tryz.prog 116 #[.agg #[.bool ng,v]] w (zFm w (zZc ng n)):=by
 obtain ⟨A,c,rfl,hlc,hc⟩:=h;refine (zYb ng A xs c w hc hl hlc).mono ?_;rintro e w' ⟨rfl,hb⟩
 have et:xDa xs=limbs n:=by rw [<-zQm hlow,hv]
 have h2:=hc.take (xDa xs).length;rw [<-xDe,et] at h2;have h3:=xDb xs;rw [et] at h3 ⊢;exact ⟨_,rfl,⟨A,c,by rw [zZf,zZe],by rw [zZe];omega,by rw [zZe];exact h2.below hb⟩,hb⟩
theorem rtrim_A (ng:Bool) (A:oAx) (xs:List Nat) (n c:Nat) (w:World) (hc:zAe .i64 w A xs) (hlc:xs.length<=c) (hlow:Low xs) (hv:val xs=n) (hl:xs.length<=1000000000) :
  Calls Tryz.prog 116 #[.agg #[.bool ng,.slice A xs.length c]] w fun e w'=>∃ c',e = .returned (.agg #[.bool (decide (zZc ng n<0)),.slice A (limbs (zZc ng n).natAbs).length c'])/\(limbs (zZc ng n).natAbs).length<=c'/\zAe .i64 w' A (limbs (zZc ng n).natAbs)/\Below w.heap.size w w':=by
 refine (zYb ng A xs c w hc hl hlc).mono ?_;rintro e w' ⟨rfl,hb⟩
 have et:xDa xs=limbs n:=by rw [<-zQm hlow,hv]
 have h2:=hc.take (xDa xs).length;rw [<-xDe,et] at h2;have h3:=xDb xs;rw [et] at h3 ⊢;exact ⟨c,by rw [zZf,zZe],by rw [zZe];omega,by rw [zZe];exact h2.below hb,hb⟩
theorem zXk (A A':oAx) (a b c c':Nat) (w:World) (ha:zAe .i64 w A (limbs a)) (hb:zAe .i64 w A' (limbs b)) (hla:(limbs a).length<=1000000000) (_hlb:(limbs b).length<=1000000000) :
  Calls Tryz.prog 117 #[.slice A (limbs a).length c,.slice A' (limbs b).length c'] w fun e w'=>e = .returned (.int .i64 (zJk a b))/\Below w.heap.size w w':=by
 by_cases hne:(limbs a).length=(limbs b).length
 ·have HE:=oH hne
  have hq:(((limbs a).length:Int) != ((limbs b).length:Int))=false:=by simp [hne]
  clear hne
  go_enter Tryz.func117,Tryz.ntmps117
  go_wp2
  go_loopw [5] (fun n wr=>∃ (k:Nat) (m:Nat),k<=(limbs a).length/\n = .int .i64 ((k:Int)-1)/\wr=w.drewN m/\val ((limbs a).drop k)=val ((limbs b).drop k)) (fun n _=>(intOf n+1).toNat)
  ·exact ⟨(limbs a).length,0,lRx,rfl,rfl,by rw [List.drop_length,HE.out,List.drop_length]⟩
  obtain ⟨k,m,hk,rfl,rfl,hd⟩:=hrel;have HD:=oH hd;clear hd
  rcases Nat.eq_zero_or_pos k with h0|h0
  ·subst h0;have E:=oH (show zJk a b=0 from zJl (by have:=HD.out;simpa [xEf] using this));clear HD
   go_wp2
   go_ret
   exact ⟨by rw [E.out];rfl,below_drewN bRx _⟩
  obtain ⟨j,rfl⟩:∃ j,k=j+1:=⟨k-1,oMx⟩;obtain ⟨g,off,rfl,hg,hc⟩:=ha (by intro e;rw [e] at hk;simp at hk)
  have hj:j<(limbs b).length:=by have:=HE.out;omega
  obtain ⟨g',off',rfl,hg',hc'⟩:=hb (by intro e;rw [e] at hj;simp at hj);have hci:=hc j oMx;have hci':=hc' j oMx;clear hc hc' ha hb;have el:=xEh (i:=j) HE.out oMx (Low.limbs a) HD.out;have eg:=xEh (i:=j) HE.symm oMx (Low.limbs b) HD.symm;rw [xEf,xEf] at el eg;have HL:=oH el;have HG:=oH eg;clear el eg
  by_cases h1:nth (limbs a) j<nth (limbs b) j
  ·have E:=oH (zJn (HL.out h1))
   go_wp2
   go_quiet (fail)
   go_wp2
   go_ret
   exact ⟨by rw [E.out];rfl,by simp only [World.drewN_drewN];exact below_drewN bRx _⟩
  by_cases h2:nth (limbs b) j<nth (limbs a) j
  ·have E:=oH (zJm (HG.out h2))
   go_wp2
   go_quiet (fail)
   go_wp2
   go_quiet (fail)
   go_wp2
   go_ret
   exact ⟨by rw [E.out];rfl,by simp only [World.drewN_drewN];exact below_drewN bRx _⟩
  have E:=oH (show val ((limbs a).drop j)=val ((limbs b).drop j) by rw [xEd,xEd (limbs b),HD.out];omega);clear HD
  go_wp2
  go_quiet (fail)
  go_wp2
  go_quiet (fail)
  go_wp2
  go_roundw
  ·exact ⟨j,_,oMx,by go_num,rfl,E.out⟩
  simp [intOf]
 have hq:(((limbs a).length:Int) != ((limbs b).length:Int))=true:=by simp [bne_iff_ne];omega
 rcases Nat.lt_or_gt_of_ne hne with h|h
 ·have E:=oH (zJn (zQc h))
  go_enter Tryz.func117,Tryz.ntmps117
  go_wp2
  go_ret
  exact ⟨by rw [E.out];rfl,bRx⟩
 have E:=oH (zJm (zQc h))
 go_enter Tryz.func117,Tryz.ntmps117
 go_wp2
 go_ret
 exact ⟨by rw [E.out];rfl,bRx⟩
theorem zWp (u:Value) (x:Int) (w:World) (hx:zBm w u x) (hlx:(limbs x.natAbs).length<=1000000000) :
  Calls Tryz.prog 99 #[u] w (zFm w (-x)):=by
 obtain ⟨A,c,rfl,hlc,hc⟩:=hx;have HC:=oH hc;have hp:0<(limbs x.natAbs).length↔x.natAbs≠0:=zQg;obtain ⟨nb,hnb⟩:∃ nb:Bool,decide (-x<0)=nb:=⟨_,rfl⟩;have HNB:=oH hnb
 have HEND:Hid (∀ W,Below w.heap.size w W->zFm w (-x) (.returned (.agg #[.bool nb,.slice A (limbs x.natAbs).length c])) W):=fun W hb=>⟨_,rfl,⟨A,c,by rw [hnb,Int.natAbs_neg],by rw [Int.natAbs_neg];exact hlc,by rw [Int.natAbs_neg];exact HC.below hb⟩,hb⟩
 have HBW:Hid (∀ o1 o2:Obj,Below w.heap.size w ((w.alloc o1).alloc o2)):=fun o1 o2=>(bA).alloc sMx _
 by_cases h1:x<0
 ·have e1:decide (x<0)=true:=by simp [h1]
  have e2:nb=false:=by rw [<-hnb];simp;omega
  rw [e1];subst e2;clear hc hp hnb e1
  go_enter Tryz.func99,Tryz.ntmps99
  go_wp2_with fail;exact bodyPost_ret (v := .agg #[.bool false,.slice A (limbs x.natAbs).length c]) (by simp [results,Tryz.results99,go_sem]) rfl (HEND.out _ (HBW.out _ _))
 have e1:decide (x<0)=false:=by simp [h1]
 rw [e1]
 by_cases h2:x=0
 ·have e2:nb=false:=by rw [<-hnb,h2];rfl
  have h3:¬0<(limbs x.natAbs).length:=fun h=>hp.1 h oMx
  have h4:decide (0<((limbs x.natAbs).length:Int))=false:=decide_eq_false oMx;subst e2;clear hc hp hnb e1 h2
  go_enter Tryz.func99,Tryz.ntmps99
  go_wp2_with fail;exact bodyPost_ret (v := .agg #[.bool false,.slice A (limbs x.natAbs).length c]) (by simp [results,Tryz.results99,go_sem]) rfl (HEND.out _ (HBW.out _ _))
 have e2:nb=true:=by rw [<-hnb];simp;omega
 have h3:0<(limbs x.natAbs).length:=hp.2 oMx;have h4:decide (0<((limbs x.natAbs).length:Int))=true:=decide_eq_true oMx;subst e2;clear hc hp hnb e1 h2
 go_enter Tryz.func99,Tryz.ntmps99
 go_wp2_with fail;exact bodyPost_ret (v := .agg #[.bool true,.slice A (limbs x.natAbs).length c]) (by simp [results,Tryz.results99,go_sem]) rfl (HEND.out _ (HBW.out _ _))
def RetLow (w:World) (n m:Nat) (e:Ending) (w':World):Prop:=∃ v xs,e = .returned v/\zBu w' v xs/\Low xs/\val xs=n/\xs.length<=m/\Below w.heap.size w w'
theorem zUs {w wr w1:World} {t e:TypeId} {v v' u:Value} {os:List Nat} {x:Nat} {X:Int} (h:wr.ownsRow w.heap.size e 1 v os.length (vn os)) (hb:Below w.heap.size w wr)
  (hown:w1.ownsRow w.heap.size e 1 v' (os.length+1) (vn os++[.int .i64 X])) (hg:(wr.alloc (.cells #[u] t)).grownBy w1 v.ownBlock) (hX:X=(x:Int)) :
  w1.ownsRow w.heap.size e 1 v' (os++[x]).length (vn (os++[x]))/\Below w.heap.size w w1:=by
 subst hX;refine ⟨?_,(hb.alloc hb.size _).grown hg (by have:=hb.size;simp;omega) (fun g hg'=>(h.lt g hg').1)⟩;rw [xFo,List.length_append];exact hown
theorem zXj (A A':oAx) (a b c c':Nat) (w:World) (ha:zAe .i64 w A (limbs a)) (hb:zAe .i64 w A' (limbs b)) (hla:(limbs a).length<=100000000) (hlb:(limbs b).length<=100000000) :
  Calls Tryz.prog 142 #[.slice A (limbs a).length c,.slice A' (limbs b).length c'] w (RetLow w (a+b) (max (limbs a).length (limbs b).length+1)):=by
 obtain ⟨i0,hi,hz0,hz1,hz2⟩:=info_parts Tryz.infoInt;obtain ⟨n,hn⟩:∃ n,n=max (limbs a).length (limbs b).length:=⟨_,rfl⟩;rw [<-hn]
 have hna:(limbs a).length<=n:=by omega
 have hnb:(limbs b).length<=n:=by omega
 have hn1:n<=100000000:=by omega
 have HLA:=oH (show ∀ i,nth (limbs a) i<1000000000 from (Low.limbs a).nth);have HLB:=oH (show ∀ i,nth (limbs b) i<1000000000 from (Low.limbs b).nth);have HN:=oH hn;have HA:=oH ha;have HB:=oH hb;clear hn ha hb
 go_enter Tryz.func142,Tryz.ntmps142
 go_wp2_with fail
 go_loopw [5,6,7] (fun v cy i wr=>∃ (k cr:Nat) (os:List Nat),k<=n+1/\i = .int .i64 (k:Int)/\cr<=1/\cy = .int .i64 (cr:Int)/\(k=n+1->cr=0)/\os.length=k/\Low os/\wr.ownsRow w.heap.size 3 1 v os.length (vn os)/\Below w.heap.size w wr/\val os+cr*1000000000^k=val ((limbs a).take k)+val ((limbs b).take k)) (fun _ _ i _=>n+1-(intOf i).toNat)
 ·exact ⟨0,0,[],oLx,rfl,oMx,rfl,oMx,rfl,Low.nil,World.ownsRow_nil _ _ _ _,bRx,by simp [val]⟩
 obtain ⟨k,cr,os,hk,rfl,hcr,rfl,hlast,hlen,hlow,hown,hbel,hv⟩:=hrel;have HLOW:=oH hlow;have HLEN:=oH hlen;have HOWN:=oH hown;have HBEL:=oH hbel;have HV:=oH hv;have HLAST:=oH hlast
 have hol:os.length<=100000001:=by omega
 have hsz:=hbel.size;have hxk:=HLA.out k;have hyk:=HLB.out k;clear hlow hlen hown hbel hv hlast
 by_cases h1:k<(limbs a).length
 ·by_cases h2:k<(limbs b).length
  ·
   obtain ⟨g,off,eg,hg,hc⟩:=HA.out (by intro e;rw [e] at h1;simp at h1);subst eg;have hca:wr.cell? ⟨g,off+k,none⟩=some (.int .i64 ((nth (limbs a) k:Nat):Int)):=(HBEL.cell (p:=⟨g,off+k,none⟩) hg).trans (hc k h1);clear hc;obtain ⟨g',off',eg',hg',hc'⟩:=HB.out (by intro e;rw [e] at h2;simp at h2);subst eg';have hcb:wr.cell? ⟨g',off'+k,none⟩=some (.int .i64 ((nth (limbs b) k:Nat):Int)):=(HBEL.cell (p:=⟨g',off'+k,none⟩) hg').trans (hc' k h2);clear hc'
   have HT:Hid ((cr:Int)+(nth (limbs a) k:Int)+(nth (limbs b) k:Int)=((nth (limbs a) k+nth (limbs b) k+cr:Nat):Int)):=by
    show _=_
    omega
   have hcl:k<n+1:=by have:=HLAST.out;omega
   go_wp2_with (at_builtin;refine wpList_append_own _ rfl _ _ 22 rfl w.heap.size 3 i0 (.int .i64 0) 1 8 Tryz.underlying22 hi hz0 hz1 hz2 rfl dCx _ _ _ rfl (HOWN.alloc _) ⟨wr.heap.size,0,none⟩ 1 1 [_] rfl rfl zTu zTs (by unfold maxLen;omega) oMx (by simp;omega) ?_)
   intro v' w1 hown1 hgrow1 _
   obtain ⟨ho1,hb1⟩:=zUs HOWN.out HBEL.out hown1 hgrow1 (x:=(nth (limbs a) k+nth (limbs b) k+cr)%1000000000) (by have:=HT.out;omega);have HO1:=oH ho1;have HB1:=oH hb1;clear hown1 hgrow1 ho1 hb1;go_wp2_with fail;go_roundw
   case rel =>
    have e1:((cr:Int)+(nth (limbs a) k:Int)+(nth (limbs b) k:Int))/1000000000=(((nth (limbs a) k+nth (limbs b) k+cr)/1000000000:Nat):Int):=by have:=HT.out;omega
    rw [e1];refine ⟨k+1,_,_,oMx,by go_num,oMx,rfl,?_,by simp [HLEN.out],HLOW.snoc (Nat.mod_lt _ oMx),HO1.out,HB1.out,zHs _ _ _ _ _ HLEN.out HV.out⟩
    intro hkn
    rw [zSr oMx,zSr oMx];omega
   simp [intOf];omega
   
  obtain ⟨g,off,eg,hg,hc⟩:=HA.out (by intro e;rw [e] at h1;simp at h1);subst eg;have hca:wr.cell? ⟨g,off+k,none⟩=some (.int .i64 ((nth (limbs a) k:Nat):Int)):=(HBEL.cell (p:=⟨g,off+k,none⟩) hg).trans (hc k h1);clear hc
  have HT:Hid ((cr:Int)+(nth (limbs a) k:Int)=((nth (limbs a) k+nth (limbs b) k+cr:Nat):Int)):=by
   have e2:=zSr (xs:=limbs b) (i:=k) oMx
   show _=_
   omega
  have hcl:k<n+1:=by have:=HLAST.out;omega
  go_wp2_with (at_builtin;refine wpList_append_own _ rfl _ _ 22 rfl w.heap.size 3 i0 (.int .i64 0) 1 8 Tryz.underlying22 hi hz0 hz1 hz2 rfl dCx _ _ _ rfl (HOWN.alloc _) ⟨wr.heap.size,0,none⟩ 1 1 [_] rfl rfl zTu zTs (by unfold maxLen;omega) oMx (by simp;omega) ?_)
  intro v' w1 hown1 hgrow1 _
  obtain ⟨ho1,hb1⟩:=zUs HOWN.out HBEL.out hown1 hgrow1 (x:=(nth (limbs a) k+nth (limbs b) k+cr)%1000000000) (by have:=HT.out;omega);have HO1:=oH ho1;have HB1:=oH hb1;clear hown1 hgrow1 ho1 hb1;go_wp2_with fail;go_roundw
  case rel =>
   have e1:((cr:Int)+(nth (limbs a) k:Int))/1000000000=(((nth (limbs a) k+nth (limbs b) k+cr)/1000000000:Nat):Int):=by have:=HT.out;omega
   rw [e1];refine ⟨k+1,_,_,oMx,by go_num,oMx,rfl,?_,by simp [HLEN.out],HLOW.snoc (Nat.mod_lt _ oMx),HO1.out,HB1.out,zHs _ _ _ _ _ HLEN.out HV.out⟩
   intro hkn
   rw [zSr oMx,zSr oMx];omega
  simp [intOf];omega
 by_cases h2:k<(limbs b).length
 ·
  obtain ⟨g',off',eg',hg',hc'⟩:=HB.out (by intro e;rw [e] at h2;simp at h2);subst eg';have hcb:wr.cell? ⟨g',off'+k,none⟩=some (.int .i64 ((nth (limbs b) k:Nat):Int)):=(HBEL.cell (p:=⟨g',off'+k,none⟩) hg').trans (hc' k h2);clear hc'
  have HT:Hid ((cr:Int)+(nth (limbs b) k:Int)=((nth (limbs a) k+nth (limbs b) k+cr:Nat):Int)):=by
   have e1:=zSr (xs:=limbs a) (i:=k) oMx
   show _=_
   omega
  have hcl:k<n+1:=by have:=HLAST.out;omega
  go_wp2_with (at_builtin;refine wpList_append_own _ rfl _ _ 22 rfl w.heap.size 3 i0 (.int .i64 0) 1 8 Tryz.underlying22 hi hz0 hz1 hz2 rfl dCx _ _ _ rfl (HOWN.alloc _) ⟨wr.heap.size,0,none⟩ 1 1 [_] rfl rfl zTu zTs (by unfold maxLen;omega) oMx (by simp;omega) ?_)
  intro v' w1 hown1 hgrow1 _
  obtain ⟨ho1,hb1⟩:=zUs HOWN.out HBEL.out hown1 hgrow1 (x:=(nth (limbs a) k+nth (limbs b) k+cr)%1000000000) (by have:=HT.out;omega);have HO1:=oH ho1;have HB1:=oH hb1;clear hown1 hgrow1 ho1 hb1;go_wp2_with fail;go_roundw
  case rel =>
   have e1:((cr:Int)+(nth (limbs b) k:Int))/1000000000=(((nth (limbs a) k+nth (limbs b) k+cr)/1000000000:Nat):Int):=by have:=HT.out;omega
   rw [e1];refine ⟨k+1,_,_,oMx,by go_num,oMx,rfl,?_,by simp [HLEN.out],HLOW.snoc (Nat.mod_lt _ oMx),HO1.out,HB1.out,zHs _ _ _ _ _ HLEN.out HV.out⟩
   intro hkn
   rw [zSr oMx,zSr oMx];omega
  simp [intOf];omega
 by_cases h3:0<cr
 ·
  have HT:Hid ((cr:Int)=((nth (limbs a) k+nth (limbs b) k+cr:Nat):Int)):=by
   have e1:=zSr (xs:=limbs a) (i:=k) oMx;have e2:=zSr (xs:=limbs b) (i:=k) oMx
   show _=_
   omega
  have hcl:k<n+1:=by have:=HLAST.out;omega
  have hcp:decide (0<(cr:Int))=true:=decide_eq_true oMx
  go_wp2_with (at_builtin;refine wpList_append_own _ rfl _ _ 22 rfl w.heap.size 3 i0 (.int .i64 0) 1 8 Tryz.underlying22 hi hz0 hz1 hz2 rfl dCx _ _ _ rfl (HOWN.alloc _) ⟨wr.heap.size,0,none⟩ 1 1 [_] rfl rfl zTu zTs (by unfold maxLen;omega) oMx (by simp;omega) ?_)
  intro v' w1 hown1 hgrow1 _
  obtain ⟨ho1,hb1⟩:=zUs HOWN.out HBEL.out hown1 hgrow1 (x:=(nth (limbs a) k+nth (limbs b) k+cr)%1000000000) (by have:=HT.out;omega);have HO1:=oH ho1;have HB1:=oH hb1;clear hown1 hgrow1 ho1 hb1;go_wp2_with fail;go_roundw
  case rel =>
   have e1:((cr:Int))/1000000000=(((nth (limbs a) k+nth (limbs b) k+cr)/1000000000:Nat):Int):=by have:=HT.out;omega
   rw [e1];refine ⟨k+1,_,_,oMx,by go_num,oMx,rfl,?_,by simp [HLEN.out],HLOW.snoc (Nat.mod_lt _ oMx),HO1.out,HB1.out,zHs _ _ _ _ _ HLEN.out HV.out⟩
   intro hkn
   rw [zSr oMx,zSr oMx];omega
  simp [intOf];omega
 have hcp:decide (0<(cr:Int))=false:=decide_eq_false oMx
 obtain rfl:cr=0:=by omega
 have E:=HV.out;rw [List.take_of_length_le oMx,List.take_of_length_le oMx,xEf,xEf,Nat.zero_mul,Nat.add_zero] at E;have HE:=oH E;clear E;go_wp2_with fail;go_ret
 exact ⟨_,os,rfl,zUu HOWN.out,HLOW.out,HE.out,by have:=HLEN.out;omega,HBEL.out⟩
def zFq (w:World) (n:Nat) (e:Ending) (w':World):Prop:=∃ v,e = .returned v/\zBu w' v (limbs n)/\Below w.heap.size w w'
theorem zYa (A:oAx) (a n c:Nat) (w:World) (ha:zAe .i64 w A (limbs a)) (hla:(limbs a).length<=100000000) (hn:n<1000000000) :
  Calls Tryz.prog 118 #[.slice A (limbs a).length c,.int .i64 (n:Int)] w (zFq w (n*a)):=by
 obtain ⟨i0,hi,hz0,hz1,hz2⟩:=info_parts Tryz.infoInt;have HLA:=oH (show ∀ i,nth (limbs a) i<1000000000 from (Low.limbs a).nth);have HA:=oH ha;clear ha
 go_enter Tryz.func118,Tryz.ntmps118
 go_wp2_with fail
 go_loopw [5,6,7] (fun v cy i wr=>∃ (k cr:Nat) (os:List Nat),k<=(limbs a).length+1/\i = .int .i64 (k:Int)/\cr<1000000000/\cy = .int .i64 (cr:Int)/\(k=(limbs a).length+1->cr=0)/\os.length=k/\Low os/\wr.ownsRow w.heap.size 3 1 v os.length (vn os)/\Below w.heap.size w wr/\val os+cr*1000000000^k=n*val ((limbs a).take k)) (fun _ _ i _=>(limbs a).length+1-(intOf i).toNat)
 ·exact ⟨0,0,[],oLx,rfl,oMx,rfl,oMx,rfl,Low.nil,World.ownsRow_nil _ _ _ _,bRx,by simp [val]⟩
 obtain ⟨k,cr,os,hk,rfl,hcr,rfl,hlast,hlen,hlow,hown,hbel,hv⟩:=hrel;have HLOW:=oH hlow;have HLEN:=oH hlen;have HOWN:=oH hown;have HBEL:=oH hbel;have HV:=oH hv;have HLAST:=oH hlast
 have hol:os.length<=100000001:=by omega
 have hsz:=hbel.size;have hxk:=HLA.out k;clear hlow hlen hown hbel hv hlast
 by_cases h1:k<(limbs a).length
 ·
  obtain ⟨g,off,eg,hg,hc⟩:=HA.out (by intro e;rw [e] at h1;simp at h1);subst eg;have hca:wr.cell? ⟨g,off+k,none⟩=some (.int .i64 ((nth (limbs a) k:Nat):Int)):=(HBEL.cell (p:=⟨g,off+k,none⟩) hg).trans (hc k h1);clear hc;have hm0:nth (limbs a) k*n<=999999999*999999999:=Nat.mul_le_mul oMx oMx
  have em:(nth (limbs a) k:Int)*(n:Int)=((nth (limbs a) k*n:Nat):Int):=by rw [Int.natCast_mul]
  have hm:(nth (limbs a) k:Int)*(n:Int)<=999999998000000001:=by rw [em];omega
  have hmp:0<=(nth (limbs a) k:Int)*(n:Int):=by rw [em];omega
  have EM:=oH em;clear em
  have HT:Hid ((cr:Int)+(nth (limbs a) k:Int)*(n:Int)=((cr+nth (limbs a) k*n:Nat):Int)):=by
   rw [EM.out];show _=_;omega
  have hcl:k<(limbs a).length+1:=by have:=HLAST.out;omega
  go_wp2_with (at_builtin;refine wpList_append_own _ rfl _ _ 22 rfl w.heap.size 3 i0 (.int .i64 0) 1 8 Tryz.underlying22 hi hz0 hz1 hz2 rfl dCx _ _ _ rfl (HOWN.alloc _) ⟨wr.heap.size,0,none⟩ 1 1 [_] rfl rfl zTu zTs (by unfold maxLen;omega) oMx (by simp;omega) ?_)
  intro v' w1 hown1 hgrow1 _
  obtain ⟨ho1,hb1⟩:=zUs HOWN.out HBEL.out hown1 hgrow1 (x:=(cr+nth (limbs a) k*n)%1000000000) (by rw [HT.out];rfl);have HO1:=oH ho1;have HB1:=oH hb1;clear hown1 hgrow1 ho1 hb1;go_wp2_with fail;go_roundw
  case rel =>
   have e1:((cr:Int)+(nth (limbs a) k:Int)*(n:Int))/1000000000=(((cr+nth (limbs a) k*n)/1000000000:Nat):Int):=by rw [HT.out];rfl
   rw [e1];refine ⟨k+1,_,_,oMx,by go_num,?_,rfl,?_,by simp [HLEN.out],HLOW.snoc (Nat.mod_lt _ oMx),HO1.out,HB1.out,xCz _ _ _ _ _ HLEN.out HV.out⟩
   ·generalize nth (limbs a) k*n=m at *;omega
   intro hkn
   rw [zSr oMx,Nat.zero_mul];omega
  simp [intOf];omega
 by_cases h3:0<cr
 ·
  have HT:Hid ((cr:Int)=((cr+nth (limbs a) k*n:Nat):Int)):=by
   rw [zSr (xs:=limbs a) (i:=k) oMx,Nat.zero_mul];show _=_;omega
  have hcl:k<(limbs a).length+1:=by have:=HLAST.out;omega
  have hcp:decide (0<(cr:Int))=true:=decide_eq_true oMx
  go_wp2_with (at_builtin;refine wpList_append_own _ rfl _ _ 22 rfl w.heap.size 3 i0 (.int .i64 0) 1 8 Tryz.underlying22 hi hz0 hz1 hz2 rfl dCx _ _ _ rfl (HOWN.alloc _) ⟨wr.heap.size,0,none⟩ 1 1 [_] rfl rfl zTu zTs (by unfold maxLen;omega) oMx (by simp;omega) ?_)
  intro v' w1 hown1 hgrow1 _
  obtain ⟨ho1,hb1⟩:=zUs HOWN.out HBEL.out hown1 hgrow1 (x:=(cr+nth (limbs a) k*n)%1000000000) (by rw [HT.out];rfl);have HO1:=oH ho1;have HB1:=oH hb1;clear hown1 hgrow1 ho1 hb1;go_wp2_with fail;go_roundw
  case rel =>
   have e1:((cr:Int))/1000000000=(((cr+nth (limbs a) k*n)/1000000000:Nat):Int):=by rw [HT.out];rfl
   rw [e1];refine ⟨k+1,_,_,oMx,by go_num,?_,rfl,?_,by simp [HLEN.out],HLOW.snoc (Nat.mod_lt _ oMx),HO1.out,HB1.out,xCz _ _ _ _ _ HLEN.out HV.out⟩
   ·rw [zSr (xs:=limbs a) (i:=k) oMx,Nat.zero_mul];omega
   intro hkn
   rw [zSr oMx,Nat.zero_mul];omega
  simp [intOf];omega
 have hcp:decide (0<(cr:Int))=false:=decide_eq_false oMx
 obtain rfl:cr=0:=by omega
 have E:=HV.out;rw [List.take_of_length_le oMx,xEf,Nat.zero_mul,Nat.add_zero] at E;have hrow:=zUu HOWN.out;have HTR:=oH (zYc false u5 os (n*a) wr hrow HLOW.out E (by have:=HLEN.out;omega));obtain ⟨A5,c5,rfl,hl5,hc5⟩:=hrow;clear E hl5 hc5 HOWN;go_wp2_with fail;refine HTR.mono ?_;rintro e w2 ⟨v2,rfl,⟨A2,c2,rfl,hl2,hc2⟩,hb2⟩;have e1:(zZc false (n*a)).natAbs=n*a:=zZe _ _;rw [e1] at hl2 hc2
 have HR:Hid (zFq w (n*a) (.returned (.slice A2 (limbs (zZc false (n*a)).natAbs).length c2)) w2):=by
  rw [e1];exact ⟨_,rfl,⟨A2,c2,rfl,hl2,hc2⟩,HBEL.trans (hb2.mono HBEL.size)⟩
 clear hl2 hc2 hb2 e1;go_wp2_with fail;go_ret
 exact HR.out
def brow:List Nat->Nat->List Value
 | [],_=>[]
 | x::xs,br => .int .i64 ((x:Int)-(br:Int))::vn xs
theorem zIy (xs:List Nat):brow xs 0=vn xs:=by cases xs<;>simp [brow,vn]
theorem zIx {xs:List Nat} {k:Nat} (h:k<xs.length) (br:Nat):brow (xs.drop k) br = .int .i64 ((nth xs k:Int)-(br:Int))::vn (xs.drop (k+1)):=by
 rw [List.drop_eq_getElem_cons h,brow,zSt h]
theorem xFk {xs:List Nat} {k:Nat} (h:k<xs.length):vn (xs.drop k) = .int .i64 (nth xs k:Int)::vn (xs.drop (k+1)):=by
 rw [List.drop_eq_getElem_cons h,zSt h];rfl
theorem zWu (os:List Nat) (u u':Value) (l:List Value):(vn os++u::l).set os.length u'=vn os++u'::l:=by
 rw [<-xFm os,List.set_append_right _ _ lRx];simp
theorem zWv (os:List Nat) (a u u':Value) (l:List Value):(vn os++a::u::l).set (os.length+1) u'=vn os++a::u'::l:=by
 rw [<-xFm os,List.set_append_right _ _ oMx];simp
theorem row_at (os:List Nat) (u:Value) (l:List Value):(vn os++u::l)[os.length]? = some u:=by rw [<-xFm os];simp
theorem zWs (os:List Nat) (a u:Value) (l:List Value):(vn os++a::u::l)[os.length+1]? = some u:=by
 rw [<-xFm os,List.getElem?_append_right oMx];simp
theorem zWt (os:List Nat) (n:Nat) (l:List Value):vn os ++ .int .i64 (n:Int)::l=vn (os++[n])++l:=by simp [vn]
theorem zWo (A A':oAx) (a b c c':Nat) (w:World) (ha:zAe .i64 w A (limbs a)) (hb:zAe .i64 w A' (limbs b)) (hla:(limbs a).length<=100000000) (_hlb:(limbs b).length<=100000000) (hab:b<=a) (ha0:0<a) :
  Calls Tryz.prog 119 #[.slice A (limbs a).length c,.slice A' (limbs b).length c'] w (RetLow w (a-b) (limbs a).length):=by
 obtain ⟨i0,hi,hz0,hz1,hz2⟩:=info_parts Tryz.infoInt;have hl0:0<(limbs a).length:=zQg.2 oMx;have HLA:=oH (show ∀ i,nth (limbs a) i<1000000000 from (Low.limbs a).nth);have HLB:=oH (show ∀ i,nth (limbs b) i<1000000000 from (Low.limbs b).nth);have HAB:=oH hab;have HB:=oH hb;obtain ⟨g,off,eg,hg,hc⟩:=ha (by intro e;rw [e] at hl0;simp at hl0);subst eg;have HC:=oH hc
 have HW0:Hid (∀ (j:Nat) (u:Value),(vn (limbs a))[j]? = some u->w.cell? ((⟨g,off,none⟩:Addr).add j)=some u):=by
  intro j u hj
  have hjl:j<(limbs a).length:=by
   rcases Nat.lt_or_ge j (limbs a).length with h|h
   ·exact h
   rw [List.getElem?_eq_none (by rw [xFm];exact h)] at hj;cases hj
  rw [xFl hjl] at hj;rw [show (⟨g,off,none⟩:Addr).add j=⟨g,off+j,none⟩ by unfold Addr.add;split<;>simp_all,HC.out j hjl,hj]
 clear ha hb hab hc
 go_enter Tryz.func119,Tryz.ntmps119
 go_wp2_with (at_builtin;refine wpList_append_own _ rfl _ _ 22 rfl w.heap.size 3 i0 (.int .i64 0) 1 8 Tryz.underlying22 hi hz0 hz1 hz2 rfl dCx _ _ _ rfl (World.ownsRow_nil _ _ _ _) ⟨g,off,none⟩ (limbs a).length c (vn (limbs a)) rfl (by rw [xFm];omega) HW0.out (by intro u hu;simp [vn] at hu;obtain ⟨x,_,rfl⟩:=hu;rfl) (by unfold maxLen;omega) oMx lRx ?_)
 intro v' w1 hown1 hgrow1 _
 obtain ⟨h,cap,rfl,hBh,hlt1⟩:=hown1.form hl0;have hbel1:Below w.heap.size w w1:=bRx.grown hgrow1 lRx (fun k hk=>by simp [Value.ownBlock] at hk);have HOWN1:=oH hown1;have HBEL1:=oH hbel1;clear hown1 hgrow1 hbel1 hi hz0 hz1 hz2 HW0;go_wp2_with fail
 go_loopw [6] (fun i wr=>∃ (k br:Nat) (os:List Nat),k<=(limbs a).length/\i = .int .i64 (k:Int)/\br<=1/\os.length=k/\Low os/\wr.ownsRow w.heap.size 3 1 (.slice (some ⟨h,0,none⟩) (limbs a).length cap) (limbs a).length (vn os++brow ((limbs a).drop k) br)/\Below w.heap.size w wr/\val os+val ((limbs b).take k)=val ((limbs a).take k)+br*1000000000^k) (fun i _=>(limbs a).length-(intOf i).toNat)
 ·exact ⟨0,0,[],oLx,rfl,oMx,rfl,Low.nil,by rw [List.drop_zero,zIy];exact HOWN1.out,HBEL1.out,by simp [val]⟩
 obtain ⟨k,br,os,hk,rfl,hbr,hlen,hlow,hown,hbel,hv⟩:=hrel;have HLOW:=oH hlow;have HOWN:=oH hown;have HBEL:=oH hbel;have HV:=oH hv;have hsz:=hbel.size;have hxk:=HLA.out k;have hyk:=HLB.out k;subst hlen;clear hlow hown hbel hv HOWN1 HBEL1
 by_cases hlt:os.length<(limbs a).length
 ·have hrow:=HOWN.out;rw [zIx hlt] at hrow;have hcell:wr.cell? ⟨h,os.length,none⟩=some (.int .i64 ((nth (limbs a) os.length:Int)-(br:Int))):=(hrow.cellAt os.length oMx).trans (row_at _ _ _);have hfr:=hrow.frozenAt os.length;have HROW:=oH hrow;have HST:=oH (xBs (limbs a) (limbs b) os os.length br rfl hxk hyk hbr HV.out);clear hrow HOWN
  by_cases h2:os.length<(limbs b).length
  ·by_cases h3:(nth (limbs a) os.length:Int)-(br:Int)-(nth (limbs b) os.length:Int)<0
   ·
    have HLIM:Hid (∀ br',val (os++[(nth (limbs a) os.length+1000000000-nth (limbs b) os.length-br)%1000000000])+val ((limbs b).take (os.length+1))=val ((limbs a).take (os.length+1))+br'*1000000000^(os.length+1)->os.length+1=(limbs a).length->br'=0):=fun br' e h1=>by
     rw [h1] at e;exact zRp HAB.out (by simp [h1]) (HLOW.snoc (Nat.mod_lt _ oMx)) e
    obtain ⟨g',off',eg',hg',hc'⟩:=HB.out (by intro e;rw [e] at h2;simp at h2);subst eg';have hcb:wr.cell? ⟨g',off'+os.length,none⟩=some (.int .i64 ((nth (limbs b) os.length:Nat):Int)):=(HBEL.cell (p:=⟨g',off'+os.length,none⟩) hg').trans (hc' os.length h2);clear hc'
    have hneg:(nth (limbs a) os.length:Int)-(br:Int)-(nth (limbs b) os.length:Int)<0:=by omega
    have em:(nth (limbs a) os.length+1000000000-nth (limbs b) os.length-br)%1000000000=(nth (limbs a) os.length+1000000000-nth (limbs b) os.length-br):=Nat.mod_eq_of_lt oMx;have ed:(nth (limbs a) os.length+1000000000-nth (limbs b) os.length-br)/1000000000=0:=Nat.div_eq_of_lt oMx;have hST:=HST.out;rw [ed] at hST
    have hk1:os.length+1<(limbs a).length:=by have:=HLIM.out 1 hST;omega
    rw [em] at hST;have HST2:=oH hST;have EM:=oH em;have hrow:=HROW.out;rw [xFk hk1] at hrow;have hcell1:wr.cell? ⟨h,os.length+1,none⟩=some (.int .i64 (nth (limbs a) (os.length+1):Int)):=(hrow.cellAt (os.length+1) oMx).trans (zWs _ _ _ _);have hfr1:=hrow.frozenAt (os.length+1);have hx1:=HLA.out (os.length+1);have HROW2:=oH hrow;clear em ed hST hrow HST;go_wp2_with fail
    go_region
    go_wp2_with fail;go_roundw
    case rel =>
     refine ⟨os.length+1,1,os++[(nth (limbs a) os.length+1000000000-nth (limbs b) os.length-br)],oMx,by go_num,oMx,by simp,HLOW.snoc oMx,?_,?_,by have:=HST2.out;simpa using this⟩
     ·have h1:=(((HROW2.stored (os.length) (.int .i64 ((nth (limbs a) os.length:Int)-(br:Int)-(nth (limbs b) os.length:Int)))).1.stored (os.length) (.int .i64 ((nth (limbs a) os.length:Int)-(br:Int)-(nth (limbs b) os.length:Int)+1000000000))).1.stored (os.length+1) (.int .i64 ((nth (limbs a) (os.length+1):Int)-1))).1;rw [zWu,zWu,zWv] at h1
      have eX:(nth (limbs a) os.length:Int)-(br:Int)-(nth (limbs b) os.length:Int)+1000000000=(((nth (limbs a) os.length+1000000000-nth (limbs b) os.length-br):Nat):Int):=by omega
      rw [zIx hk1,<-zWt,<-eX];exact h1
     exact (((HBEL.setCell (p:=⟨h,os.length,none⟩) hBh _).setCell (p:=⟨h,os.length,none⟩) hBh _).setCell (p:=⟨h,os.length+1,none⟩) hBh _).drew
    simp [intOf];omega
    
   have HLIM:Hid (∀ br',val (os++[(nth (limbs a) os.length+1000000000-nth (limbs b) os.length-br)%1000000000])+val ((limbs b).take (os.length+1))=val ((limbs a).take (os.length+1))+br'*1000000000^(os.length+1)->os.length+1=(limbs a).length->br'=0):=fun br' e h1=>by
    rw [h1] at e;exact zRp HAB.out (by simp [h1]) (HLOW.snoc (Nat.mod_lt _ oMx)) e
   obtain ⟨g',off',eg',hg',hc'⟩:=HB.out (by intro e;rw [e] at h2;simp at h2);subst eg';have hcb:wr.cell? ⟨g',off'+os.length,none⟩=some (.int .i64 ((nth (limbs b) os.length:Nat):Int)):=(HBEL.cell (p:=⟨g',off'+os.length,none⟩) hg').trans (hc' os.length h2);clear hc'
   have hneg:¬(nth (limbs a) os.length:Int)-(br:Int)-(nth (limbs b) os.length:Int)<0:=by omega
   have em:(nth (limbs a) os.length+1000000000-nth (limbs b) os.length-br)%1000000000=nth (limbs a) os.length-br-nth (limbs b) os.length:=by rw [show (nth (limbs a) os.length+1000000000-nth (limbs b) os.length-br)=nth (limbs a) os.length-br-nth (limbs b) os.length+1000000000 by omega,Nat.add_mod_right];exact Nat.mod_eq_of_lt oMx
   have ed:(nth (limbs a) os.length+1000000000-nth (limbs b) os.length-br)/1000000000=1:=by omega
   have hST:=HST.out;rw [ed,em] at hST;have HST2:=oH hST;clear em ed hST HST;go_wp2_with fail
   go_region
   go_wp2_with fail;go_roundw
   case rel =>
    refine ⟨os.length+1,0,os++[(nth (limbs a) os.length-br-nth (limbs b) os.length)],oMx,by go_num,oMx,by simp,HLOW.snoc oMx,?_,?_,by have:=HST2.out;simpa using this⟩
    ·have h1:=(HROW.stored (os.length) (.int .i64 ((nth (limbs a) os.length:Int)-(br:Int)-(nth (limbs b) os.length:Int)))).1;rw [zWu] at h1
     have eX:(nth (limbs a) os.length:Int)-(br:Int)-(nth (limbs b) os.length:Int)=(((nth (limbs a) os.length-br-nth (limbs b) os.length):Nat):Int):=by omega
     rw [zIy,<-zWt,<-eX];exact h1
    exact (HBEL.setCell (p:=⟨h,os.length,none⟩) hBh _).drew
   simp [intOf];omega
  by_cases h3:(nth (limbs a) os.length:Int)-(br:Int)<0
  ·
   have HLIM:Hid (∀ br',val (os++[(nth (limbs a) os.length+1000000000-nth (limbs b) os.length-br)%1000000000])+val ((limbs b).take (os.length+1))=val ((limbs a).take (os.length+1))+br'*1000000000^(os.length+1)->os.length+1=(limbs a).length->br'=0):=fun br' e h1=>by
    rw [h1] at e;exact zRp HAB.out (by simp [h1]) (HLOW.snoc (Nat.mod_lt _ oMx)) e
   have hy0:=zSr (xs:=limbs b) (i:=os.length) oMx;have HY0:=oH hy0;clear hy0
   have hneg:(nth (limbs a) os.length:Int)-(br:Int)<0:=by have:=HY0.out;omega
   have em:(nth (limbs a) os.length+1000000000-nth (limbs b) os.length-br)%1000000000=(nth (limbs a) os.length+1000000000-nth (limbs b) os.length-br):=Nat.mod_eq_of_lt (by have:=HY0.out;omega);have ed:(nth (limbs a) os.length+1000000000-nth (limbs b) os.length-br)/1000000000=0:=Nat.div_eq_of_lt (by have:=HY0.out;omega);have hST:=HST.out;rw [ed] at hST
   have hk1:os.length+1<(limbs a).length:=by have:=HLIM.out 1 hST;omega
   rw [em] at hST;have HST2:=oH hST;have EM:=oH em;have hrow:=HROW.out;rw [xFk hk1] at hrow;have hcell1:wr.cell? ⟨h,os.length+1,none⟩=some (.int .i64 (nth (limbs a) (os.length+1):Int)):=(hrow.cellAt (os.length+1) oMx).trans (zWs _ _ _ _);have hfr1:=hrow.frozenAt (os.length+1);have hx1:=HLA.out (os.length+1);have HROW2:=oH hrow;clear em ed hST hrow HST;go_wp2_with fail;go_roundw
   case rel =>
    refine ⟨os.length+1,1,os++[(nth (limbs a) os.length+1000000000-nth (limbs b) os.length-br)],oMx,by go_num,oMx,by simp,HLOW.snoc (by have:=HY0.out;omega),?_,?_,by have:=HST2.out;simpa using this⟩
    ·have h1:=((HROW2.stored (os.length) (.int .i64 ((nth (limbs a) os.length:Int)-(br:Int)+1000000000))).1.stored (os.length+1) (.int .i64 ((nth (limbs a) (os.length+1):Int)-1))).1;rw [zWu,zWv] at h1
     have eX:(nth (limbs a) os.length:Int)-(br:Int)+1000000000=(((nth (limbs a) os.length+1000000000-nth (limbs b) os.length-br):Nat):Int):=by have:=HY0.out;omega
     rw [zIx hk1,<-zWt,<-eX];exact h1
    exact ((HBEL.setCell (p:=⟨h,os.length,none⟩) hBh _).setCell (p:=⟨h,os.length+1,none⟩) hBh _)
   simp [intOf];omega
    
  have HLIM:Hid (∀ br',val (os++[(nth (limbs a) os.length+1000000000-nth (limbs b) os.length-br)%1000000000])+val ((limbs b).take (os.length+1))=val ((limbs a).take (os.length+1))+br'*1000000000^(os.length+1)->os.length+1=(limbs a).length->br'=0):=fun br' e h1=>by
   rw [h1] at e;exact zRp HAB.out (by simp [h1]) (HLOW.snoc (Nat.mod_lt _ oMx)) e
  have hy0:=zSr (xs:=limbs b) (i:=os.length) oMx;have HY0:=oH hy0;clear hy0
  have hneg:¬(nth (limbs a) os.length:Int)-(br:Int)<0:=by have:=HY0.out;omega
  have em:(nth (limbs a) os.length+1000000000-nth (limbs b) os.length-br)%1000000000=nth (limbs a) os.length-br-nth (limbs b) os.length:=by rw [show (nth (limbs a) os.length+1000000000-nth (limbs b) os.length-br)=nth (limbs a) os.length-br-nth (limbs b) os.length+1000000000 by have:=HY0.out;omega,Nat.add_mod_right];exact Nat.mod_eq_of_lt oMx
  have ed:(nth (limbs a) os.length+1000000000-nth (limbs b) os.length-br)/1000000000=1:=by have:=HY0.out;omega
  have hST:=HST.out;rw [ed,em] at hST;have HST2:=oH hST;clear em ed hST HST;go_wp2_with fail;go_roundw
  case rel =>
   refine ⟨os.length+1,0,os++[(nth (limbs a) os.length-br-nth (limbs b) os.length)],oMx,by go_num,oMx,by simp,HLOW.snoc (by have:=HY0.out;omega),?_,?_,by have:=HST2.out;simpa using this⟩
   ·have h1:=HROW.out
    have eX:(nth (limbs a) os.length:Int)-(br:Int)=(((nth (limbs a) os.length-br-nth (limbs b) os.length):Nat):Int):=by have:=HY0.out;omega
    rw [zIy,<-zWt,<-eX];exact h1
   exact HBEL.out
  simp [intOf];omega
 have hlen:os.length=(limbs a).length:=by omega
 have h0:=HV.out;rw [hlen] at h0;have hbr0:=zRp HAB.out hlen HLOW.out h0;rw [hbr0,List.take_of_length_le (zQd HAB.out),List.take_length,xEf,xEf,Nat.zero_mul,Nat.add_zero] at h0
 have hrow:zBu wr (.slice (some ⟨h,0,none⟩) (limbs a).length cap) os:=by
  have h1:=HOWN.out;rw [List.drop_eq_nil_of_le oMx,show brow [] br=[] from rfl,List.append_nil,<-hlen] at h1;rw [<-hlen];exact zUu h1
 have HE:=oH (show val os=a-b by omega);have HROW:=oH hrow;clear h0 hrow hbr0;go_wp2_with fail;go_ret
 exact ⟨_,os,rfl,HROW.out,HLOW.out,HE.out,oMx,HBEL.out⟩
theorem sgnB_add (x y:Int) (h:decide (x<0)=decide (y<0)):zZc (decide (x<0)) (x.natAbs+y.natAbs)=x+y:=by
 unfold zZc
 by_cases hx:x<0
 ·have hy:y<0:=by have:=h;simp [hx] at this;exact this
  simp [hx];omega
 have hy:¬y<0:=by have:=h;simp [hx] at this;omega
 simp [hx];omega
theorem zZh (x y:Int) (h:decide (x<0)≠decide (y<0)) (hle:y.natAbs<=x.natAbs):zZc (decide (x<0)) (x.natAbs-y.natAbs)=x+y:=by
 unfold zZc
 by_cases hx:x<0
 ·have hy:¬y<0:=by intro hy;simp [hx,hy] at h
  simp [hx];omega
 have hy:y<0:=by
  apply Decidable.byContradiction
  intro hy
  simp [hx,hy] at h
 simp [hx];omega
theorem zPp (a b:Nat):(limbs (a*b)).length<=(limbs a).length+(limbs b).length:=by
 apply zQb
 rw [Nat.pow_add];exact Nat.mul_lt_mul'' (zQh a) (zQh b)
structure BB (w W:World) (n0 n1:Bool) (s0 s1:Value):Prop where
 k0:Blk W w.heap.size 85 [.bool n0,s0]
 k1:Blk W (w.heap.size+1) 85 [.bool n1,s1]
 k2:Blk W (w.heap.size+1+1) 85 [.bool false,.slice none 0 0]
 bel:Below w.heap.size w W
section
variable {w W W':World} {n0 n1:Bool} {s0 s1:Value}
theorem BB.new (w:World) (n0 n1:Bool) (s0 s1:Value):BB w (((w.alloc (.cells #[.bool n0,s0] 85)).alloc (.cells #[.bool n1,s1] 85)).alloc (.cells #[.bool false,.slice none 0 0] 85)) n0 n1 s0 s1:=by
 have h1:=(Blk.new (w.alloc (.cells #[.bool n0,s0] 85)) 85 [.bool n1,s1]).alloc (.cells #[.bool false,.slice none 0 0] 85);have h2:=Blk.new ((w.alloc (.cells #[.bool n0,s0] 85)).alloc (.cells #[.bool n1,s1] 85)) 85 [.bool false,.slice none 0 0];rw [World.size_alloc] at h1;rw [World.size_alloc,World.size_alloc] at h2;exact ⟨((Blk.new w 85 [.bool n0,s0]).alloc _).alloc _,h1,h2,((bA).alloc sMx _).alloc (by simp;omega) _⟩
theorem BB.below (h:BB w W n0 n1 s0 s1) (hb:Below W.heap.size W W'):BB w W' n0 n1 s0 s1 :=
 ⟨h.k0.below hb,h.k1.below hb,h.k2.below hb,h.bel.trans (hb.mono (Nat.le_of_lt h.k0.lt))⟩
theorem BB.drew (h:BB w W n0 n1 s0 s1):BB w W.drew n0 n1 s0 s1:=⟨h.k0,h.k1,h.k2,h.bel.drew⟩
abbrev zBe (w W:World) (n0 n1:Bool) (s0 s1:Value):Prop:=W.cell? ⟨w.heap.size,0,none⟩=some (.bool n0)/\W.cell? ⟨w.heap.size,1,none⟩=some s0/\W.cell? ⟨w.heap.size+1,0,none⟩=some (.bool n1)/\W.cell? ⟨w.heap.size+1,1,none⟩=some s1
theorem BB.four (h:BB w W n0 n1 s0 s1):zBe w W n0 n1 s0 s1:=⟨h.k0.at_ rfl,h.k0.at_ rfl,h.k1.at_ rfl,h.k1.at_ rfl⟩
theorem BB.stored (h:BB w W n0 n1 s0 s1) (x y:Value):zBe w ((W.setCell ⟨w.heap.size+1+1,0,none⟩ x).setCell ⟨w.heap.size+1+1,1,none⟩ y) n0 n1 s0 s1:=by
 have k0:=(h.k0.far (p:=⟨w.heap.size+1+1,0,none⟩) (by show w.heap.size≠w.heap.size+1+1;omega) x).far (p:=⟨w.heap.size+1+1,1,none⟩) (by show w.heap.size≠w.heap.size+1+1;omega) y;have k1:=(h.k1.far (p:=⟨w.heap.size+1+1,0,none⟩) (by show w.heap.size+1≠w.heap.size+1+1;omega) x).far (p:=⟨w.heap.size+1+1,1,none⟩) (by show w.heap.size+1≠w.heap.size+1+1;omega) y;exact ⟨k0.at_ rfl,k0.at_ rfl,k1.at_ rfl,k1.at_ rfl⟩
end
theorem zAe.aside {k:IntKind} {w:World} {A:oAx} {xs:List Nat} {g:Nat} {t:TypeId} {cs:List Value} (h:zAe k w A xs) (hg:Blk w g t cs) (hno:∀ (i:Nat) (n:Int),cs[i]? ≠ some (.int k n)) (i:Nat) (u:Value) :
  zAe k (w.setCell ⟨g,i,none⟩ u) A xs:=by
 intro hne
 obtain ⟨b,off,rfl,hb,hc⟩:=h hne
 have hbg:b≠g:=by
  rintro rfl;have h0:=hc 0 (by rcases xs with _|⟨x,xs⟩;exact absurd rfl hne;simp);rw [hg.cell] at h0;exact hno _ _ h0
 refine ⟨b,off,rfl,by simpa [World.setCell] using hb,fun j hj=>?_⟩;exact (World.cell?_of_block (w:=w) (Below.heap_setCell w ⟨g,i,none⟩ u b hbg)).trans (hc j hj)
theorem zSm {k:IntKind} {b:Bool} {A:oAx} {l c:Nat}:∀ (i:Nat) (n:Int),([.bool b,.slice A l c]:List Value)[i]? ≠ some (.int k n):=by
 intro i n
 match i with
 | 0=>simp
 | 1=>simp
 | i+2=>simp
theorem zIr {w W:World} {g:Nat} {A:oAx} {c:Nat} {x y:Int} (hk:Blk W g 85 [.bool false,.slice none 0 0]) (hb:Below w.heap.size w W) (hg:w.heap.size<=g) (hc:zAe .i64 W A (limbs x.natAbs)) (hl:(limbs x.natAbs).length<=c) (e:x=y) :
  zFm w y (.returned (.agg #[.bool (decide (x<0)),.slice A (limbs x.natAbs).length c])) ((W.setCell ⟨g,0,none⟩ (.bool (decide (x<0)))).setCell ⟨g,1,none⟩ (.slice A (limbs x.natAbs).length c)):=by
 subst e;exact ⟨_,rfl,⟨A,c,rfl,hl,(hc.aside hk zSm 0 _).aside (hk.set 0 _) zSm 1 _⟩,(hb.setCell (p:=⟨g,0,none⟩) hg _).setCell (p:=⟨g,1,none⟩) hg _⟩
def zBf (w:World) (v:Value):Prop:=∃ nb A l c,v = .agg #[.bool nb,.slice A l c]/\∀ b off,A=some ⟨b,off,none⟩->w.heap.size<=b
def zFl (w:World) (z:Int) (e:Ending) (w':World):Prop:=∃ v,e = .returned v/\zBm w' v z/\Below w.heap.size w w'/\zBf w v
theorem zFl.n {w:World} {z:Int} {e:Ending} {w':World} (h:zFl w z e w'):zFm w z e w':=by
 obtain ⟨v,e,h1,h2,_⟩:=h;exact ⟨v,e,h1,h2⟩
theorem zIs {w W:World} {g:Nat} {A:oAx} {c:Nat} {x y:Int} (hk:Blk W g 85 [.bool false,.slice none 0 0]) (hb:Below w.heap.size w W) (hg:w.heap.size<=g) (hc:zAe .i64 W A (limbs x.natAbs)) (hl:(limbs x.natAbs).length<=c) (e:x=y) (hA:∀ b off,A=some ⟨b,off,none⟩->w.heap.size<=b) :
  zFl w y (.returned (.agg #[.bool (decide (x<0)),.slice A (limbs x.natAbs).length c])) ((W.setCell ⟨g,0,none⟩ (.bool (decide (x<0)))).setCell ⟨g,1,none⟩ (.slice A (limbs x.natAbs).length c)):=by
 subst e;exact ⟨_,rfl,⟨A,c,rfl,hl,(hc.aside hk zSm 0 _).aside (hk.set 0 _) zSm 1 _⟩,(hb.setCell (p:=⟨g,0,none⟩) hg _).setCell (p:=⟨g,1,none⟩) hg _,⟨_,A,_,c,rfl,hA⟩⟩
theorem zDg (u v:Value) (x y:Int) (w:World) (hx:zBm w u x) (hy:zBm w v y) (hlx:(limbs x.natAbs).length<=100000000) (hly:(limbs y.natAbs).length<=100000000) (hq:decide (x<0)=decide (y<0)) :
  Calls Tryz.prog 125 #[u,v] w (zFm w (x+y)):=by
 obtain ⟨A,c,rfl,hlc,hc⟩:=hx;obtain ⟨A',c',rfl,hlc',hc'⟩:=hy;have HC:=oH hc;have HC':=oH hc';have HQ:=oH hq
 have hq':(decide (x<0)==decide (y<0))=true:=by rw [hq];simp
 clear hq;generalize hna:decide (x<0)=na at *;generalize hnb:decide (y<0)=nb at *;have HNA:=oH hna;have HNB:=oH hnb;clear hc hc' hna hnb
 go_enter Tryz.func125,Tryz.ntmps125
 go_upto_region 1 with (fail);have hbx:=BB.new w na nb (.slice A (limbs x.natAbs).length c) (.slice A' (limbs y.natAbs).length c');generalize ((w.alloc (.cells #[.bool na,.slice A (limbs x.natAbs).length c] 85)).alloc (.cells #[.bool nb,.slice A' (limbs y.natAbs).length c'] 85)).alloc (.cells #[.bool false,.slice none 0 0] 85)=W at *;have HBX:=oH hbx;have h4:=hbx.four;obtain ⟨ha0,ha1,hb0,hb1⟩:=h4;have HM:=oH (fun (V:World) (hV:Below w.heap.size w V)=>zXj A A' x.natAbs y.natAbs c c' V (HC.below hV) (HC'.below hV) hlx hly);clear hbx;go_wp2_with fail
 go_region_held3 (fun w'=>w'.cell? ⟨w.heap.size,0,none⟩=some (.bool na)/\w'.cell? ⟨w.heap.size,1,none⟩=some (.slice A (limbs x.natAbs).length c)/\w'.cell? ⟨w.heap.size+1,0,none⟩=some (.bool nb)/\w'.cell? ⟨w.heap.size+1,1,none⟩=some (.slice A' (limbs y.natAbs).length c'))
  (first|exact HBX3.stored _ _|exact HBX3.four|exact HBX2.four|go_keep)
  (first|(go_at_call 142;refine (HM.out _ (by exact HBX.drew.bel)).mono ?_;rintro e w2 ⟨v2,xs2,rfl,hv2,hlow2,hval2,hlen2,hb2⟩;have HV2:=oH hv2;obtain ⟨A2,c2,rfl,hl2,hc2⟩:=hv2;have HBX2:=oH (HBX.drew.below hb2);have HL2:=oH hlow2;have HE2:=oH hval2;clear hlow2 hval2 hb2 hl2 hc2)|(go_at_call 116;refine (zYc _ _ _ _ _ HV2.out HL2.out HE2.out oMx).mono ?_;rintro e w3 ⟨v3,rfl,⟨A3,c3,rfl,hl3,hs3⟩,hb3⟩;have HBX3:=oH (HBX2.below hb3);have HS3:=oH hs3;have hr0:w3.cell? ⟨w.heap.size+1+1,0,none⟩=some (.bool false):=HBX3.k2.at_ rfl;have hr1:w3.cell? ⟨w.heap.size+1+1,1,none⟩=some (.slice none 0 0):=HBX3.k2.at_ rfl;have hf0:=HBX3.k2.fr 0;have hf1:=HBX3.k2.fr 1;clear hb3 hs3))
 go_wp2_with fail;refine bodyPost_ret (v := .agg #[.bool (decide (zZc na (x.natAbs+y.natAbs)<0)),.slice A3 (limbs (zZc na (x.natAbs+y.natAbs)).natAbs).length c3]) (by simp [results,Tryz.results125,go_sem,hr0,hr1]) rfl ?_;exact zIr HBX3.k2 HBX3.bel oMx HS3.out hl3 (by rw [<-HNA.out,sgnB_add x y (by rw [HNA.out,HNB.out];exact HQ.out)])
theorem RAdd_ge (u v:Value) (x y:Int) (w:World) (hx:zBm w u x) (hy:zBm w v y) (hlx:(limbs x.natAbs).length<=100000000) (hly:(limbs y.natAbs).length<=100000000) (hq:decide (x<0)≠decide (y<0)) (hle:y.natAbs<=x.natAbs) (h0:0<x.natAbs) :
  Calls Tryz.prog 125 #[u,v] w (zFm w (x+y)):=by
 obtain ⟨A,c,rfl,hlc,hc⟩:=hx;obtain ⟨A',c',rfl,hlc',hc'⟩:=hy;have HC:=oH hc;have HC':=oH hc';have HQ:=oH hq
 have hq':(decide (x<0)==decide (y<0))=false:=by simp only [beq_eq_false_iff_ne];exact hq
 clear hq;obtain ⟨cm,hcm,hcm0⟩:∃ cm:Int,cm=zJk x.natAbs y.natAbs/\0<=cm:=⟨_,rfl,by rcases Nat.lt_or_eq_of_le hle with h|h;(rw [zJm h];omega);(rw [zJl h.symm];omega)⟩;have HCM:=oH hcm;clear hcm;generalize hna:decide (x<0)=na at *;generalize hnb:decide (y<0)=nb at *;have HNA:=oH hna;have HNB:=oH hnb;clear hc hc' hna hnb
 go_enter Tryz.func125,Tryz.ntmps125
 go_upto_region 1 with (fail);have hbx:=BB.new w na nb (.slice A (limbs x.natAbs).length c) (.slice A' (limbs y.natAbs).length c');generalize ((w.alloc (.cells #[.bool na,.slice A (limbs x.natAbs).length c] 85)).alloc (.cells #[.bool nb,.slice A' (limbs y.natAbs).length c'] 85)).alloc (.cells #[.bool false,.slice none 0 0] 85)=W at *;have HBX:=oH hbx;have h4:=hbx.four;obtain ⟨ha0,ha1,hb0,hb1⟩:=h4;have HM:=oH (fun (V:World) (hV:Below w.heap.size w V)=>zWo A A' x.natAbs y.natAbs c c' V (HC.below hV) (HC'.below hV) hlx hly hle h0);clear hbx;have HCMP:=oH (zXk A A' x.natAbs y.natAbs c c' W (HC.below HBX.bel) (HC'.below HBX.bel) oMx oMx);rw [<-HCM.out] at HCMP;go_wp2_with fail;refine HCMP.mono ?_;rintro e w' ⟨rfl,hbs⟩;clear HCMP;have HBXm:=HBX.below hbs;clear HBX hbs ha0 ha1 hb0 hb1;have HBX:=oH HBXm;obtain ⟨ha0,ha1,hb0,hb1⟩:=HBXm.four;clear HBXm;go_wp2_with fail
 go_region_held3 (fun w'=>w'.cell? ⟨w.heap.size,0,none⟩=some (.bool na)/\w'.cell? ⟨w.heap.size,1,none⟩=some (.slice A (limbs x.natAbs).length c)/\w'.cell? ⟨w.heap.size+1,0,none⟩=some (.bool nb)/\w'.cell? ⟨w.heap.size+1,1,none⟩=some (.slice A' (limbs y.natAbs).length c'))
  (first|exact HBX3.stored _ _|exact HBX3.four|exact HBX2.four|go_keep)
  (first|(go_at_call 119;refine (HM.out _ (by exact HBX.drew.bel)).mono ?_;rintro e w2 ⟨v2,xs2,rfl,hv2,hlow2,hval2,hlen2,hb2⟩;have HV2:=oH hv2;obtain ⟨A2,c2,rfl,hl2,hc2⟩:=hv2;have HBX2:=oH (HBX.drew.below hb2);have HL2:=oH hlow2;have HE2:=oH hval2;clear hlow2 hval2 hb2 hl2 hc2)|(go_at_call 116;refine (zYc _ _ _ _ _ HV2.out HL2.out HE2.out oMx).mono ?_;rintro e w3 ⟨v3,rfl,⟨A3,c3,rfl,hl3,hs3⟩,hb3⟩;have HBX3:=oH (HBX2.below hb3);have HS3:=oH hs3;have hr0:w3.cell? ⟨w.heap.size+1+1,0,none⟩=some (.bool false):=HBX3.k2.at_ rfl;have hr1:w3.cell? ⟨w.heap.size+1+1,1,none⟩=some (.slice none 0 0):=HBX3.k2.at_ rfl;have hf0:=HBX3.k2.fr 0;have hf1:=HBX3.k2.fr 1;clear hb3 hs3))
 go_wp2_with fail;refine bodyPost_ret (v := .agg #[.bool (decide (zZc na (x.natAbs-y.natAbs)<0)),.slice A3 (limbs (zZc na (x.natAbs-y.natAbs)).natAbs).length c3]) (by simp [results,Tryz.results125,go_sem,hr0,hr1]) rfl ?_;exact zIr HBX3.k2 HBX3.bel oMx HS3.out hl3 (by rw [<-HNA.out,zZh x y (by rw [HNA.out,HNB.out];exact HQ.out) hle])
theorem RAdd_lt (u v:Value) (x y:Int) (w:World) (hx:zBm w u x) (hy:zBm w v y) (hlx:(limbs x.natAbs).length<=100000000) (hly:(limbs y.natAbs).length<=100000000) (hq:decide (x<0)≠decide (y<0)) (hle:x.natAbs<y.natAbs) :
  Calls Tryz.prog 125 #[u,v] w (zFm w (x+y)):=by
 obtain ⟨A,c,rfl,hlc,hc⟩:=hx;obtain ⟨A',c',rfl,hlc',hc'⟩:=hy;have HC:=oH hc;have HC':=oH hc';have HQ:=oH hq
 have hq':(decide (x<0)==decide (y<0))=false:=by simp only [beq_eq_false_iff_ne];exact hq
 clear hq;obtain ⟨cm,hcm,hcm0⟩:∃ cm:Int,cm=zJk x.natAbs y.natAbs/\cm<0:=⟨_,rfl,by rw [zJn hle];omega⟩;have HCM:=oH hcm;clear hcm;generalize hna:decide (x<0)=na at *;generalize hnb:decide (y<0)=nb at *;have HNA:=oH hna;have HNB:=oH hnb;clear hc hc' hna hnb
 go_enter Tryz.func125,Tryz.ntmps125
 go_upto_region 1 with (fail);have hbx:=BB.new w na nb (.slice A (limbs x.natAbs).length c) (.slice A' (limbs y.natAbs).length c');generalize ((w.alloc (.cells #[.bool na,.slice A (limbs x.natAbs).length c] 85)).alloc (.cells #[.bool nb,.slice A' (limbs y.natAbs).length c'] 85)).alloc (.cells #[.bool false,.slice none 0 0] 85)=W at *;have HBX:=oH hbx;have h4:=hbx.four;obtain ⟨ha0,ha1,hb0,hb1⟩:=h4;have HM:=oH (fun (V:World) (hV:Below w.heap.size w V)=>zWo A' A y.natAbs x.natAbs c' c V (HC'.below hV) (HC.below hV) hly hlx (Nat.le_of_lt hle) oMx);clear hbx;have HCMP:=oH (zXk A A' x.natAbs y.natAbs c c' W (HC.below HBX.bel) (HC'.below HBX.bel) oMx oMx);rw [<-HCM.out] at HCMP;go_wp2_with fail;refine HCMP.mono ?_;rintro e w' ⟨rfl,hbs⟩;clear HCMP;have HBXm:=HBX.below hbs;clear HBX hbs ha0 ha1 hb0 hb1;have HBX:=oH HBXm;obtain ⟨ha0,ha1,hb0,hb1⟩:=HBXm.four;clear HBXm;go_wp2_with fail
 go_region_held3 (fun w'=>w'.cell? ⟨w.heap.size,0,none⟩=some (.bool na)/\w'.cell? ⟨w.heap.size,1,none⟩=some (.slice A (limbs x.natAbs).length c)/\w'.cell? ⟨w.heap.size+1,0,none⟩=some (.bool nb)/\w'.cell? ⟨w.heap.size+1,1,none⟩=some (.slice A' (limbs y.natAbs).length c'))
  (first|exact HBX3.stored _ _|exact HBX3.four|exact HBX2.four|go_keep)
  (first|(go_at_call 119;refine (HM.out _ (by exact HBX.drew.bel)).mono ?_;rintro e w2 ⟨v2,xs2,rfl,hv2,hlow2,hval2,hlen2,hb2⟩;have HV2:=oH hv2;obtain ⟨A2,c2,rfl,hl2,hc2⟩:=hv2;have HBX2:=oH (HBX.drew.below hb2);have HL2:=oH hlow2;have HE2:=oH hval2;clear hlow2 hval2 hb2 hl2 hc2)|(go_at_call 116;refine (zYc _ _ _ _ _ HV2.out HL2.out HE2.out oMx).mono ?_;rintro e w3 ⟨v3,rfl,⟨A3,c3,rfl,hl3,hs3⟩,hb3⟩;have HBX3:=oH (HBX2.below hb3);have HS3:=oH hs3;have hr0:w3.cell? ⟨w.heap.size+1+1,0,none⟩=some (.bool false):=HBX3.k2.at_ rfl;have hr1:w3.cell? ⟨w.heap.size+1+1,1,none⟩=some (.slice none 0 0):=HBX3.k2.at_ rfl;have hf0:=HBX3.k2.fr 0;have hf1:=HBX3.k2.fr 1;clear hb3 hs3))
 go_wp2_with fail;refine bodyPost_ret (v := .agg #[.bool (decide (zZc nb (y.natAbs-x.natAbs)<0)),.slice A3 (limbs (zZc nb (y.natAbs-x.natAbs)).natAbs).length c3]) (by simp [results,Tryz.results125,go_sem,hr0,hr1]) rfl ?_;exact zIr HBX3.k2 HBX3.bel oMx HS3.out hl3 (by rw [<-HNB.out,zZh y x (by rw [HNA.out,HNB.out];exact Ne.symm HQ.out) (Nat.le_of_lt hle),Int.add_comm])
theorem RAdd_any (u v:Value) (x y:Int) (w:World) (hx:zBm w u x) (hy:zBm w v y) (hlx:(limbs x.natAbs).length<=100000000) (hly:(limbs y.natAbs).length<=100000000) :
  Calls Tryz.prog 125 #[u,v] w (zFm w (x+y)):=by
 by_cases hq:decide (x<0)=decide (y<0)
 ·exact zDg u v x y w hx hy hlx hly hq
 rcases Nat.lt_or_ge x.natAbs y.natAbs with h|h
 ·exact RAdd_lt u v x y w hx hy hlx hly hq h
 refine RAdd_ge u v x y w hx hy hlx hly hq h ?_
 rcases Nat.eq_zero_or_pos x.natAbs with e|e
 ·exfalso
  have hx0:x=0:=by omega
  have hy0:y=0:=by omega
  rw [hx0,hy0] at hq;exact hq rfl
 exact e
theorem RSub_any (u v:Value) (x y:Int) (w:World) (hx:zBm w u x) (hy:zBm w v y) (hlx:(limbs x.natAbs).length<=100000000) (hly:(limbs y.natAbs).length<=100000000) :
  Calls Tryz.prog 97 #[u,v] w (zFm w (x-y)):=by
 have HXB:=oH hx;have HYB:=oH hy;obtain ⟨A,c,rfl,hlc,hc⟩:=hx;obtain ⟨A',c',rfl,hlc',hc'⟩:=hy;clear hc hc';generalize decide (x<0)=na at *;generalize decide (y<0)=nb at *
 go_enter Tryz.func97,Tryz.ntmps97
 go_upto_region 1 with (fail);have hbx:=BB.new w na nb (.slice A (limbs x.natAbs).length c) (.slice A' (limbs y.natAbs).length c');generalize ((w.alloc (.cells #[.bool na,.slice A (limbs x.natAbs).length c] 85)).alloc (.cells #[.bool nb,.slice A' (limbs y.natAbs).length c'] 85)).alloc (.cells #[.bool false,.slice none 0 0] 85)=W at *;have HBX:=oH hbx;obtain ⟨ha0,ha1,hb0,hb1⟩:=hbx.four;clear hbx;have HM:=oH (fun (V:World) (hV:Below w.heap.size w V)=>zWp _ y V (HYB.below hV) oMx)
 go_region_held3 (fun w'=>w'.cell? ⟨w.heap.size,0,none⟩=some (.bool na)/\w'.cell? ⟨w.heap.size,1,none⟩=some (.slice A (limbs x.natAbs).length c)/\w'.cell? ⟨w.heap.size+1,0,none⟩=some (.bool nb)/\w'.cell? ⟨w.heap.size+1,1,none⟩=some (.slice A' (limbs y.natAbs).length c'))
  (first|exact HBX3.stored _ _|exact HBX3.four|exact HBX2.four|go_keep)
  (first|(go_at_call 99;refine (HM.out _ (by exact HBX.drew.bel)).mono ?_;rintro e w2 ⟨v2,rfl,hv2,hb2⟩;have HV2:=oH hv2;have HBX2:=oH (HBX.drew.below hb2);clear hv2 hb2)|(go_at_call 125;refine (RAdd_any _ _ x (-y) _ (HXB.below HBX2.bel) HV2.out hlx (by rw [Int.natAbs_neg];exact hly)).mono ?_;rintro e w3 ⟨v3,rfl,⟨A3,c3,rfl,hl3,hs3⟩,hb3⟩;have HBX3:=oH (HBX2.below hb3);have HS3:=oH hs3;have hr0:w3.cell? ⟨w.heap.size+1+1,0,none⟩=some (.bool false):=HBX3.k2.at_ rfl;have hr1:w3.cell? ⟨w.heap.size+1+1,1,none⟩=some (.slice none 0 0):=HBX3.k2.at_ rfl;have hf0:=HBX3.k2.fr 0;have hf1:=HBX3.k2.fr 1;clear hb3 hs3))
 go_wp2_with fail;refine bodyPost_ret (v := .agg #[.bool (decide (x + -y<0)),.slice A3 (limbs (x + -y).natAbs).length c3]) (by simp [results,Tryz.results97,go_sem,hr0,hr1]) rfl ?_;exact zIr HBX3.k2 HBX3.bel oMx HS3.out hl3 oMx
theorem BB.far {w W:World} {n0 n1:Bool} {s0 s1:Value} (h:BB w W n0 n1 s0 s1) {p:Addr} (hp:w.heap.size+2<p.block) (u:Value):BB w (W.setCell p u) n0 n1 s0 s1 :=
 ⟨h.k0.far oMx u,h.k1.far oMx u,h.k2.far oMx u,h.bel.setCell oMx u⟩
theorem BB.drewN {w W:World} {n0 n1:Bool} {s0 s1:Value} (h:BB w W n0 n1 s0 s1) (n:Nat):BB w (W.drewN n) n0 n1 s0 s1:=⟨h.k0,h.k1,h.k2,below_drewN h.bel n⟩
theorem BB.alloc {w W:World} {n0 n1:Bool} {s0 s1:Value} (h:BB w W n0 n1 s0 s1) (o:Obj):BB w (W.alloc o) n0 n1 s0 s1:=⟨h.k0.alloc o,h.k1.alloc o,h.k2.alloc o,h.bel.alloc (Nat.le_of_lt h.k0.lt) o⟩
theorem sgnB_mul (x y:Int):zZc (decide (x<0) != decide (y<0)) (x.natAbs*y.natAbs)=x*y:=by
 have hx:=zZg x;have hy:=zZg y;generalize decide (x<0)=a at *;generalize decide (y<0)=b at *;rw [<-hx,<-hy];simp only [zZe]
 cases a<;>cases b<;>simp [zZc,Int.natCast_mul,Int.neg_mul,Int.mul_neg]
def Prod (w wr:World) (na nb:Bool) (s0 s1:Value) (g n:Nat) (r:List Nat):Prop:=r.length=n/\Low r/\Row .i64 wr g 3 r/\BB w wr na nb s0 s1
theorem Prod.step {w wr:World} {na nb:Bool} {s0 s1:Value} {g n:Nat} {r:List Nat} (h:Prod w wr na nb s0 s1 g n r) (hg:w.heap.size+2<g) (i:Nat) {x:Nat} (hx:x<1000000000):Prod w (wr.setCell ⟨g,i,none⟩ (.int .i64 (x:Int))) na nb s0 s1 g n (r.set i x) :=
 ⟨by simp [h.1],h.2.1.set i hx,h.2.2.1.set i x,h.2.2.2.far hg _⟩
theorem Prod.drewN {w wr:World} {na nb:Bool} {s0 s1:Value} {g n:Nat} {r:List Nat} (h:Prod w wr na nb s0 s1 g n r) (m:Nat):Prod w (wr.drewN m) na nb s0 s1 g n r:=⟨h.1,h.2.1,h.2.2.1,h.2.2.2.drewN m⟩
theorem zEk (u v:Value) (x y:Int) (w:World) (hx:zBm w u x) (hy:zBm w v y) (hlx:(limbs x.natAbs).length<=100000000) (hly:(limbs y.natAbs).length<=100000000) :
  Calls Tryz.prog 84 #[u,v] w (zFm w (x*y)):=by
 obtain ⟨A,c,rfl,hlc,hc⟩:=hx;obtain ⟨A',c',rfl,hlc',hc'⟩:=hy;have HC:=oH hc;have HC':=oH hc';have HSG:=oH (sgnB_mul x y);generalize hna:decide (x<0)=na at *;generalize hnb:decide (y<0)=nb at *;generalize hea:x.natAbs=a at *;generalize heb:y.natAbs=b at *;obtain ⟨i0,hi,hz0,hz1,hz2⟩:=info_parts Tryz.infoInt
 have hmk:=fun W=>zYk (P:=Tryz.prog) 22 3 i0 .i64 8 Tryz.underlying22 hi hz0 hz1 hz2 ((limbs a).length+(limbs b).length+1) oMx oMx W
 rw [Int.natCast_succ,Int.natCast_add] at hmk;have HLA:=oH (show ∀ i,nth (limbs a) i<1000000000 from (Low.limbs a).nth);have HLB:=oH (show ∀ i,nth (limbs b) i<1000000000 from (Low.limbs b).nth);clear hc hc' hna hnb hea heb hi hz0 hz1 hz2
 go_enter Tryz.func84,Tryz.ntmps84
 go_upto_region 1 with (fail);have hbx:=BB.new w na nb (.slice A (limbs a).length c) (.slice A' (limbs b).length c');generalize ((w.alloc (.cells #[.bool na,.slice A (limbs a).length c] 85)).alloc (.cells #[.bool nb,.slice A' (limbs b).length c'] 85)).alloc (.cells #[.bool false,.slice none 0 0] 85)=W at *;have hgs:w.heap.size+2<W.heap.size:=hbx.k2.lt;have HBX:=oH hbx;obtain ⟨ha0,ha1,hb0,hb1⟩:=hbx.four;clear hbx;go_wp2_with fail;clear hmk ha0 ha1 hb0 hb1;generalize hgg:W.heap.size=g at *
 go_loopw [6] (fun ix wr=>∃ (i:Nat) (r:List Nat),i<=(limbs a).length/\ix = .int .i64 (i:Int)/\Prod w wr na nb (.slice A (limbs a).length c) (.slice A' (limbs b).length c') g ((limbs a).length+(limbs b).length+1) r/\(∀ j,i+(limbs b).length<=j->nth r j=0)/\val r=val ((limbs a).take i)*b) (fun i _=>(limbs a).length-(intOf i).toNat)
 case atStart =>
  refine ⟨0,xGk ((limbs a).length+(limbs b).length+1),oLx,rfl,⟨xGl _,zQr _,?_,HBX.alloc _⟩,fun j _=>zSw _ _,by rw [xEs];simp [val]⟩;rw [<-hgg];exact Row.new _ _ _ _
 obtain ⟨i,r,hi,rfl,hW,hz,hv⟩:=hrel;have HW:=oH hW;have HZ:=oH hz;have HV:=oH hv;obtain ⟨ha0,ha1,hb0,hb1⟩:=hW.2.2.2.four;have hxi:=HLA.out i;clear hW hz hv HBX hgg
 by_cases hlt:i<(limbs a).length
 ·go_wp2_with fail;clear ha0 ha1 hb0 hb1;obtain ⟨wo,rfl⟩:=nWx wr
  go_loopw [7,8] (fun cy kx wr=>∃ (k cr:Nat) (r:List Nat),k<=(limbs b).length+1/\kx = .int .i64 (k:Int)/\cr<1000000000/\cy = .int .i64 (cr:Int)/\(k=(limbs b).length+1->cr=0)/\Prod w wr na nb (.slice A (limbs a).length c) (.slice A' (limbs b).length c') g ((limbs a).length+(limbs b).length+1) r/\(∀ j,i+(limbs b).length+1<=j->nth r j=0)/\(k<=(limbs b).length->nth r (i+(limbs b).length)=0) /\
   val r+cr*1000000000^(i+k)=val ((limbs a).take i)*b+nth (limbs a) i*1000000000^i*val ((limbs b).take k)) (fun _ k _=>(limbs b).length+1-(intOf k).toNat)
  ·exact ⟨0,0,r,oLx,rfl,oMx,rfl,oMx,HW.out,fun j hj=>HZ.out j oMx,fun _=>HZ.out _ oMx,by rw [HV.out];simp [val]⟩
  obtain ⟨k,cr,r,hk,rfl,hcr,rfl,hlast,hW,hz,hz2,hv⟩:=hrel;clear HW HZ HV;have HW:=oH hW;have HZ:=oH hz;have HZ2:=oH hz2;have HV:=oH hv;have HLAST:=oH hlast;obtain ⟨ha0,ha1,hb0,hb1⟩:=hW.2.2.2.four;have hyk:=HLB.out k;clear hW hz hz2 hv hlast
  by_cases hlk:k<(limbs b).length
  ·obtain ⟨ga,offa,eA,hga,hca⟩:=HC.out (by intro e;rw [e] at hlt;simp at hlt);subst eA;obtain ⟨gb,offb,eB,hgb,hcb⟩:=HC'.out (by intro e;rw [e] at hlk;simp at hlk);subst eB;have hcai:wr.cell? ⟨ga,offa+i,none⟩=some (.int .i64 ((nth (limbs a) i:Nat):Int)):=(HW.2.2.2.bel.cell (p:=⟨ga,offa+i,none⟩) hga).trans (hca i hlt);have hcbk:wr.cell? ⟨gb,offb+k,none⟩=some (.int .i64 ((nth (limbs b) k:Nat):Int)):=(HW.2.2.2.bel.cell (p:=⟨gb,offb+k,none⟩) hgb).trans (hcb k hlk);clear hca hcb;have hcell:=HW.2.2.1.cell (i:=i+k) (by rw [HW.1];omega);have hfr:=HW.2.2.1.frozen (i+k);have hrk:=HW.2.1.nth (i+k);have hm0:nth (limbs a) i*nth (limbs b) k<=999999999*999999999:=Nat.mul_le_mul oMx oMx
   have em:(nth (limbs a) i:Int)*(nth (limbs b) k:Int)=((nth (limbs a) i*nth (limbs b) k:Nat):Int):=by rw [Int.natCast_mul]
   have hm:(nth (limbs a) i:Int)*(nth (limbs b) k:Int)<=999999998000000001:=by rw [em];omega
   have hmp:0<=(nth (limbs a) i:Int)*(nth (limbs b) k:Int):=by rw [em];omega
   have EM:=oH em;clear em
   have hb1':(i:Int)<((limbs a).length:Int):=by omega
   have hb2':(k:Int)<((limbs b).length:Int):=by omega
   have hi0:(0:Int)<=(i:Int):=by omega
   have hk0:(0:Int)<=(k:Int):=by omega
   have ew1:IntKind.i64.wrap ((nth (limbs a) i:Int)*(nth (limbs b) k:Int))=(nth (limbs a) i:Int)*(nth (limbs b) k:Int):=IntWalk.i64_in _ oMx;have ew2:IntKind.i64.wrap ((cr:Int)+(nth r (i+k):Int)+(nth (limbs a) i:Int)*(nth (limbs b) k:Int))=(cr:Int)+(nth r (i+k):Int)+(nth (limbs a) i:Int)*(nth (limbs b) k:Int):=IntWalk.i64_in _ oMx;go_wp2_with fail
   go_quiet (fail)
   clear ew1 ew2;go_wp2_with fail;go_roundw
   case rel =>
    have eT:(cr:Int)+(nth r (i+k):Int)+(nth (limbs a) i:Int)*(nth (limbs b) k:Int)=((nth r (i+k)+nth (limbs a) i*nth (limbs b) k+cr:Nat):Int):=by rw [EM.out];omega
    have e1:((cr:Int)+(nth r (i+k):Int)+(nth (limbs a) i:Int)*(nth (limbs b) k:Int))/1000000000=(((nth r (i+k)+nth (limbs a) i*nth (limbs b) k+cr)/1000000000:Nat):Int):=by rw [eT];rfl
    have e2:((cr:Int)+(nth r (i+k):Int)+(nth (limbs a) i:Int)*(nth (limbs b) k:Int))%1000000000=(((nth r (i+k)+nth (limbs a) i*nth (limbs b) k+cr)%1000000000:Nat):Int):=by rw [eT];rfl
    rw [e1,e2];refine ⟨k+1,_,_,oMx,by go_num,?_,rfl,oMx,(HW.drewN nq).step hgs _ (Nat.mod_lt _ oMx),fun j hj=>?_,fun _=>?_,?_⟩
    ·generalize nth (limbs a) i*nth (limbs b) k=m at *;omega
    ·rw [zSv oMx];exact HZ.out j hj
    ·rw [zSv oMx];exact HZ2.out oMx
    rw [xEn];exact zRx r i k _ _ cr _ _ (by rw [HW.1];omega) HV.out
   simp [intOf];omega
  by_cases hcp:0<cr
  ·have hkl:k=(limbs b).length:=by have:=HLAST.out;omega
   have hz2:=HZ2.out oMx;have hy0:=zSr (xs:=limbs b) (i:=k) oMx;have HKL:=oH hkl;have hcell:=HW.2.2.1.cell (i:=i+k) (by rw [HW.1];omega);have hfr:=HW.2.2.1.frozen (i+k);have hrk:=HW.2.1.nth (i+k);have HY0:=oH hy0
   have HZ3:Hid (nth r (i+k)=0):=by rw [hkl];exact hz2
   have hcp':decide (0<(cr:Int))=true:=decide_eq_true oMx;clear hkl hz2 hy0;go_wp2_with fail;go_roundw
   case rel =>
    have eT:(cr:Int)+(nth r (i+k):Int)=((nth r (i+k)+nth (limbs a) i*nth (limbs b) k+cr:Nat):Int):=by rw [HY0.out,Nat.mul_zero];omega
    have e1:((cr:Int)+(nth r (i+k):Int))/1000000000=(((nth r (i+k)+nth (limbs a) i*nth (limbs b) k+cr)/1000000000:Nat):Int):=by rw [eT];rfl
    have e2:((cr:Int)+(nth r (i+k):Int))%1000000000=(((nth r (i+k)+nth (limbs a) i*nth (limbs b) k+cr)%1000000000:Nat):Int):=by rw [eT];rfl
    rw [e1,e2];have hkl:=HKL.out
    have hd:(nth r (i+k)+nth (limbs a) i*nth (limbs b) k+cr)/1000000000=0:=by
     rw [HZ3.out,HY0.out,Nat.mul_zero];exact Nat.div_eq_of_lt oMx
    refine ⟨k+1,_,_,oMx,by go_num,oMx,rfl,fun _=>hd,HW.step hgs _ (Nat.mod_lt _ oMx),fun j hj=>?_,fun h=>by omega,?_⟩
    ·rw [zSv oMx];exact HZ.out j hj
    rw [xEn];exact zRx r i k _ _ cr _ _ (by rw [HW.1];omega) HV.out
   have:=HKL.out;simp [intOf];omega
  have hcp':decide (0<(cr:Int))=false:=decide_eq_false oMx
  obtain rfl:cr=0:=by omega
  have hE:=HV.out;rw [List.take_of_length_le (l:=limbs b) oMx,xEf,Nat.zero_mul,Nat.add_zero] at hE;have HE:=oH hE;clear hE;go_wp2_with fail;go_roundw
  case rel =>
   refine ⟨i+1,r,oMx,by go_num,HW.out,fun j hj=>HZ.out j oMx,?_⟩;rw [HE.out,xEn,Nat.add_mul,Nat.mul_comm (1000000000^i)]
  simp [intOf];exact Nat.sub_lt_sub_left hlt (Nat.lt_succ_self i)
 have hE:=HV.out;rw [List.take_of_length_le (l:=limbs a) oMx,xEf] at hE;have hrow:zBu wr (.slice (some ⟨g,0,none⟩) ((limbs a).length+(limbs b).length+1) ((limbs a).length+(limbs b).length+1)) r:=⟨_,_,by rw [HW.1],by rw [HW.1];omega,HW.2.2.1.cells⟩;have HTR:=oH (zYc (na != nb) _ r (a*b) wr hrow HW.2.1 hE (by rw [HW.1];omega));clear hE hrow;go_wp2_with fail;refine HTR.mono ?_;rintro e w3 ⟨v3,rfl,⟨A3,c3,rfl,hl3,hs3⟩,hb3⟩;have HBX3:=oH (HW.2.2.2.below hb3);have HS3:=oH hs3;have hr0:w3.cell? ⟨w.heap.size+1+1,0,none⟩=some (.bool false):=HBX3.k2.at_ rfl;have hr1:w3.cell? ⟨w.heap.size+1+1,1,none⟩=some (.slice none 0 0):=HBX3.k2.at_ rfl;have hf0:=HBX3.k2.fr 0;have hf1:=HBX3.k2.fr 1;clear hb3 hs3 HTR;go_wp2_with fail;refine bodyPost_ret (v := .agg #[.bool (decide (zZc (na != nb) (a*b)<0)),.slice A3 (limbs (zZc (na != nb) (a*b)).natAbs).length c3]) (by simp [results,Tryz.results84,go_sem,hr0,hr1]) rfl ?_
 exact zIr HBX3.k2 HBX3.bel oMx HS3.out hl3 HSG.out
end Go.Proofs.YtbjaplppalcmgaaGreatDoor
