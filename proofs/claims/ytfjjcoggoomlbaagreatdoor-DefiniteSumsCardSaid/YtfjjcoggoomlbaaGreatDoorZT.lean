import Derived.Test.YtfjjcoggoomlbaaGreatDoorZR
import Derived.Test.YtfjjcoggoomlbaaGreatDoorZJ
set_option maxHeartbeats 16000000
set_option maxRecDepth 100000
namespace Go.Proofs.YtfjjcoggoomlbaaGreatDoor
open Go.RowKit
theorem no_i2 {nb:Bool} {A:Option Addr} {l c:Nat}:∀ x∈([.bool nb,.slice A l c]:List Value),∀ z,x ≠ .int .i64 z:=by intro x hx z e;subst e;simp at hx
theorem zSs {na nb:Bool} {A A':Option Addr} {l c l' c':Nat}:∀ x∈([.bool na,.slice A l c,.bool nb,.slice A' l' c']:List Value),∀ z,x ≠ .int .i64 z:=by intro x hx z e;subst e;simp at hx
theorem zBz.box {w W':World} {v:Value} {z:Int} {g:Nat} {t:TypeId} {cs:List Value} (h:zBz w v z) (hg:Blk w g t cs) (hcs:∀ x∈cs,∀ z,x ≠ .int .i64 z) (hW:w.grownBy W' (some g)):zBz W' v z:=by
 obtain ⟨A,c,e,hl,hc⟩:=h
 exact ⟨A,c,e,hl,hc.box hg hcs hW⟩
theorem zBz.set2 {W:World} {v:Value} {z:Int} {g:Nat} {t:TypeId} {nb:Bool} {A:Option Addr} {l c:Nat} (h:zBz W v z) (k:Blk W g t [.bool nb,.slice A l c]) (x y:Value):zBz ((W.setCell ⟨g,0,none⟩ x).setCell ⟨g,1,none⟩ y) v z:=h.box k no_i2 (zNv (zNu g 0 _) 1 _)
theorem zBz.slice {w:World} {v:Value} {z:Int} (h:zBz w v z):∃ (nb:Bool) (A:Option Addr) (l c:Nat),v = .agg #[.bool nb,.slice A l c]:=by
 obtain ⟨A,c,rfl,_,_⟩:=h
 exact ⟨_,A,_,c,rfl⟩
theorem zBz.parts {w:World} {nb:Bool} {A:Option Addr} {l c:Nat} {z:Int} (h:zBz w (.agg #[.bool nb,.slice A l c]) z):nb=decide (z<0)∧l=(limbs z.natAbs).length:=by
 obtain ⟨A',c',e,_,_⟩:=h
 injection e with e
 have e0:=congrArg (fun a=>a[0]?) e
 have e1:=congrArg (fun a=>a[1]?) e
 simp at e0 e1
 exact ⟨e0,e1.2.1⟩
def zCf (w:World) (v:Value) (q:Rat):Prop:=∃ (na nb:Bool) (A A':Option Addr) (l c l' c':Nat),v = .agg #[.bool na,.slice A l c,.bool nb,.slice A' l' c']∧zBz w (.agg #[.bool na,.slice A l c]) q.num∧zBz w (.agg #[.bool nb,.slice A' l' c']) (q.den:Int)
theorem zCf.below {w w':World} {v:Value} {q:Rat} (h:zCf w v q) (hb:Below w.heap.size w w'):zCf w' v q:=by
 obtain ⟨na,nb,A,A',l,c,l',c',e,h1,h2⟩:=h
 exact ⟨na,nb,A,A',l,c,l',c',e,h1.below hb,h2.below hb⟩
theorem zCf.box {w W':World} {v:Value} {q:Rat} {g:Nat} {t:TypeId} {cs:List Value} (h:zCf w v q) (hg:Blk w g t cs) (hcs:∀ x∈cs,∀ z,x ≠ .int .i64 z) (hW:w.grownBy W' (some g)):zCf W' v q:=by
 obtain ⟨na,nb,A,A',l,c,l',c',e,h1,h2⟩:=h
 exact ⟨na,nb,A,A',l,c,l',c',e,h1.box hg hcs hW,h2.box hg hcs hW⟩
theorem zCf.mk {w:World} {na nb:Bool} {A A':Option Addr} {l c l' c':Nat} {n d:Int} {q:Rat} (h1:zBz w (.agg #[.bool na,.slice A l c]) n) (h2:zBz w (.agg #[.bool nb,.slice A' l' c']) d) (e1:n=q.num) (e2:d=(q.den:Int)):zCf w (.agg #[.bool na,.slice A l c,.bool nb,.slice A' l' c']) q:=by
 subst e1 e2
 exact ⟨na,nb,A,A',l,c,l',c',rfl,h1,h2⟩
theorem zCf.open_ {w:World} {v:Value} {q:Rat} (h:zCf w v q):∃ (na nb:Bool) (A A':Option Addr) (l c l' c':Nat),v = .agg #[.bool na,.slice A l c,.bool nb,.slice A' l' c']∧zBz w (.agg #[.bool na,.slice A l c]) q.num∧zBz w (.agg #[.bool nb,.slice A' l' c']) (q.den:Int):=h
theorem zCf.slice {w:World} {v:Value} {q:Rat} (h:zCf w v q):∃ (na nb:Bool) (A A':Option Addr) (l c l' c':Nat),v = .agg #[.bool na,.slice A l c,.bool nb,.slice A' l' c']:=by
 obtain ⟨na,nb,A,A',l,c,l',c',e,_,_⟩:=h
 exact ⟨na,nb,A,A',l,c,l',c',e⟩
def zFv (w:World) (q:Rat) (e:Ending) (w':World):Prop:=∃ v,e = .returned v∧zCf w' v q∧Below w.heap.size w w'
theorem zXo {w W:World} {g:Nat} {na nb:Bool} {A A':Option Addr} {l c l' c':Nat} {q p:Rat} {cs:List Value} {t:TypeId} (h:Blk W g t cs) (hcs:∀ x∈cs,∀ z,x ≠ .int .i64 z) (hb:Below w.heap.size w W) (hg:w.heap.size≤g) (hq:zCf W (.agg #[.bool na,.slice A l c,.bool nb,.slice A' l' c']) q) (e:q=p) :
  zFv w p (.returned (.agg #[.bool na,.slice A l c,.bool nb,.slice A' l' c'])) ((((W.setCell ⟨g,0,none⟩ (.bool na)).setCell ⟨g,1,none⟩ (.slice A l c)).setCell ⟨g,2,none⟩ (.bool nb)).setCell ⟨g,3,none⟩ (.slice A' l' c')):=by
 subst e
 exact ⟨_,rfl,hq.box h hcs (zNv (zNv (zNv (zNu g 0 _) 1 _) 2 _) 3 _),(((hb.setCell (p:=⟨g,0,none⟩) hg _).setCell (p:=⟨g,1,none⟩) hg _).setCell (p:=⟨g,2,none⟩) hg _).setCell (p:=⟨g,3,none⟩) hg _⟩
end Go.Proofs.YtfjjcoggoomlbaaGreatDoor
namespace Go.Proofs.YtfjjcoggoomlbaaGreatDoor
open Go.RowKit
theorem RF_one (w:World):Calls Tryz.prog 102 #[.int .i64 1] w (zFi w 1):=zEm 1 w dCx dCx
theorem zDs (n:Int) (w:World) (h0 : -9223372036854775808≤n) (h1:n≤9223372036854775807):Calls Tryz.prog 45 #[.int .i64 n] w (zFv w (n:Rat)):=by
 go_enter Tryz.func45,Tryz.ntmps45
 go_wp2_with fail
 have hHR:=(Blk.new w 73 [.bool false,.slice none 0 0,.bool false,.slice none 0 0])
 have hB0:Below w.heap.size w (w.alloc (.cells #[.bool false,.slice none 0 0,.bool false,.slice none 0 0] 73)):=bA
 generalize w.alloc (.cells #[.bool false,.slice none 0 0,.bool false,.slice none 0 0] 73)=W at *
 have HR:=oH hHR
 have HB:=oH hB0
 clear hB0 hHR
 refine (zEm n W h0 h1).mono ?_
 rintro e w1 ⟨v1,rfl,hv,hb⟩
 replace HR:=oH (HR.below hb)
 have HN:=oH hv
 obtain ⟨x1,X1,y1,z1,rfl⟩:=hv.slice
 replace HB:=oH (HB.trans (hb.mono HB.size))
 clear hb hv
 go_wp2_with fail
 refine (RF_one w1).mono ?_
 rintro e w2 ⟨v2,rfl,hv,hb⟩
 replace HR:=oH (HR.below hb)
 replace HN:=oH (HN.below hb)
 have HD:=oH hv
 obtain ⟨x2,X2,y2,z2,rfl⟩:=hv.slice
 replace HB:=oH (HB.trans (hb.mono HB.size))
 clear hb hv
 have r0:=HR.at_ (i:=0) rfl
 have r1:=HR.at_ (i:=1) rfl
 have r2:=HR.at_ (i:=2) rfl
 have r3:=HR.at_ (i:=3) rfl
 have fr0:=HR.fr 0
 have fr1:=HR.fr 1
 have fr2:=HR.fr 2
 have fr3:=HR.fr 3
 go_wp2_with fail
 refine bodyPost_ret (v := .agg #[.bool x1,.slice X1 y1 z1,.bool x2,.slice X2 y2 z2]) (by simp [results,Tryz.results45,go_sem, *]) rfl ?_
 exact zXo HR.out zSs HB.out lRx (zCf.mk (q:=(n:Rat)) HN.out HD.out sMx sMx) rfl
theorem quo_sign {d:Int} {g:Nat} (hg:0<g) (h:(g:Int) ∣ d):(d.tdiv (g:Int)<0↔d<0):=by
 obtain ⟨k,rfl⟩:=h
 rw [Int.mul_tdiv_cancel_left _ oMx]
 constructor
 ·intro hk
  exact Int.mul_neg_of_pos_of_neg oMx hk
 ·intro hk
  rcases Int.lt_or_le k 0 with h|h
  ·exact h
  ·exfalso
   have:=Int.mul_nonneg (show (0:Int)≤(g:Int) by omega) h
   omega
def RNewS (w:World) (p q:Nat) (n d:Int) (W:World):Prop:=∃ (na nb:Bool) (A A':Option Addr) (l c l' c':Nat),Blk W p 71 [.bool na,.slice A l c]∧Blk W q 71 [.bool nb,.slice A' l' c']∧Blk W (w.heap.size+1+1) 73 [.bool false,.slice none 0 0,.bool false,.slice none 0 0] ∧
 zBz W (.agg #[.bool na,.slice A l c]) n∧zBz W (.agg #[.bool nb,.slice A' l' c']) d∧Below w.heap.size w W
theorem RNewS.store {w W:World} {p q:Nat} {na nb na' nb':Bool} {A A' B B':Option Addr} {l c l' c' m e m' e':Nat} {n d:Int} (k0:Blk W p 71 [.bool na,.slice A l c]) (k1:Blk W q 71 [.bool nb,.slice A' l' c']) (k2:Blk W (w.heap.size+1+1) 73 [.bool false,.slice none 0 0,.bool false,.slice none 0 0])
  (hn:zBz W (.agg #[.bool na',.slice B m e]) n) (hd:zBz W (.agg #[.bool nb',.slice B' m' e']) d) (hb:Below w.heap.size w W) (h1:p≠q) (h2:w.heap.size+1+1≠p) (h3:w.heap.size+1+1≠q) (h4:w.heap.size≤p) (h5:w.heap.size≤q) :
  RNewS w p q n d ((((W.setCell ⟨p,0,none⟩ (.bool na')).setCell ⟨p,1,none⟩ (.slice B m e)).setCell ⟨q,0,none⟩ (.bool nb')).setCell ⟨q,1,none⟩ (.slice B' m' e')):=by
 have g1:Blk ((W.setCell ⟨p,0,none⟩ (.bool na')).setCell ⟨p,1,none⟩ (.slice B m e)) q 71 [.bool nb,.slice A' l' c']:=k1.two_far (Ne.symm h1) _ _
 have g2:Blk ((W.setCell ⟨p,0,none⟩ (.bool na')).setCell ⟨p,1,none⟩ (.slice B m e)) (w.heap.size+1+1) 73 [.bool false,.slice none 0 0,.bool false,.slice none 0 0]:=k2.two_far h2 _ _
 exact ⟨na',nb',B,B',m,e,m',e',(k0.set2 _ _).two_far h1 _ _,g1.set2 _ _,g2.two_far h3 _ _,(hn.set2 k0 _ _).set2 g1 _ _,(hd.set2 k0 _ _).set2 g1 _ _,zHv (zHv hb h4 _ _) h5 _ _⟩
attribute [local go_sem ↓] Go.wp_at_zero Go.wp_at_succ
theorem zEl (u v:Value) (n d:Int) (w:World) (hn:zBz w u n) (hd:zBz w v d) (hln:(limbs n.natAbs).length≤10000000) (hld:(limbs d.natAbs).length≤10000000) (hd0:d≠0) :
  Calls Tryz.prog 101 #[u,v] w (zFv w (Rat.divInt n d)):=by
 have HQ:=oH (zWw (n:=n) hd0)
 have hgp:0<n.natAbs.gcd d.natAbs:=Nat.gcd_pos_of_pos_right _ oMx
 have hgl:(limbs (((n.natAbs.gcd d.natAbs:Nat):Int)).natAbs).length≤10000000:=by
  rw [Int.natAbs_natCast]
  exact Nat.le_trans (zQj (Nat.gcd_le_right _ oMx)) hld
 have hsn:=quo_sign hgp (show ((n.natAbs.gcd d.natAbs:Nat):Int) ∣ d from Int.ofNat_dvd_left.2 (Nat.gcd_dvd_right _ _))
 have lq1:(limbs (n.tdiv ((n.natAbs.gcd d.natAbs:Nat):Int)).natAbs).length≤10000000:=Nat.le_trans (zQj (xDn n _)) hln
 have lq2:(limbs (d.tdiv ((n.natAbs.gcd d.natAbs:Nat):Int)).natAbs).length≤10000000:=Nat.le_trans (zQj (xDn d _)) hld
 have hG0:((n.natAbs.gcd d.natAbs:Nat):Int)≠0:=by omega
 have HGC:=oH (fun U V W (hU:zBz W U n) (hV:zBz W V d)=>zEf U V n d W hU hV hln hld)
 generalize ((n.natAbs.gcd d.natAbs:Nat):Int)=G at *
 have HQ1:=oH (fun U V W (hU:zBz W U n) (hV:zBz W V G)=>zEn U V n G W hU hV hln hgl hG0)
 have HQ2:=oH (fun U V W (hU:zBz W U d) (hV:zBz W V G)=>zEn U V d G W hU hV hld hgl hG0)
 generalize n.tdiv G=n1 at *
 generalize d.tdiv G=d1 at *
 have hlp:0<(limbs d.natAbs).length:=zQm.2 oMx
 have HN:=oH hn
 have HD:=oH hd
 obtain ⟨na,A,l,c,rfl⟩:=hn.slice
 obtain ⟨nb,A',l',c',rfl⟩:=hd.slice
 have hl':=hd.parts.2
 rw [←hl'] at hlp
 have hz:((l':Int)==0)=false:=beq_eq_false_iff_ne.2 oMx
 clear hn hd hl' hgp
 go_enter Tryz.func101,Tryz.ntmps101
 go_upto_region 3 with (fail)
 have hHK0:=(((Blk.new w 71 [.bool na,.slice A l c]).alloc (.cells #[.bool nb,.slice A' l' c'] 71)).alloc (.cells #[.bool false,.slice none 0 0,.bool false,.slice none 0 0] 73))
 have hHK1:=((Blk.new (w.alloc (.cells #[.bool na,.slice A l c] 71)) 71 [.bool nb,.slice A' l' c']).alloc (.cells #[.bool false,.slice none 0 0,.bool false,.slice none 0 0] 73))
 rw [World.size_alloc] at hHK1
 have hHK2:=(Blk.new ((w.alloc (.cells #[.bool na,.slice A l c] 71)).alloc (.cells #[.bool nb,.slice A' l' c'] 71)) 73 [.bool false,.slice none 0 0,.bool false,.slice none 0 0])
 rw [World.size_alloc] at hHK2
 rw [World.size_alloc] at hHK2
 have hB0:Below w.heap.size w (((w.alloc (.cells #[.bool na,.slice A l c] 71)).alloc (.cells #[.bool nb,.slice A' l' c'] 71)).alloc (.cells #[.bool false,.slice none 0 0,.bool false,.slice none 0 0] 73)):=((bA).alloc sMx _).alloc (by simp;omega) _
 generalize ((w.alloc (.cells #[.bool na,.slice A l c] 71)).alloc (.cells #[.bool nb,.slice A' l' c'] 71)).alloc (.cells #[.bool false,.slice none 0 0,.bool false,.slice none 0 0] 73)=W at *
 have HK0:=oH hHK0
 have HK1:=oH hHK1
 have HK2:=oH hHK2
 have HB:=oH hB0
 clear hB0 hHK0 hHK1 hHK2
 replace HN:=oH (HN.below HB.out)
 replace HD:=oH (HD.below HB.out)
 have hs2:=HK2.lt
 clear hz
 have a0:=HK0.at_ (i:=0) rfl
 have a1:=HK0.at_ (i:=1) rfl
 have b0:=HK1.at_ (i:=0) rfl
 have b1:=HK1.at_ (i:=1) rfl
 go_wp2_with fail
 refine (HGC.out _ _ W HN.out HD.out).mono ?_
 rintro e w1 ⟨v1,rfl,hv,hb⟩
 replace HK0:=oH (HK0.below hb)
 replace HK1:=oH (HK1.below hb)
 replace HK2:=oH (HK2.below hb)
 replace HN:=oH (HN.below hb)
 replace HD:=oH (HD.below hb)
 have HG:=oH hv
 obtain ⟨x1,X1,y1,z1,rfl⟩:=hv.slice
 replace HB:=oH (HB.trans (hb.mono HB.size))
 clear hb hv a0 a1 b0 b1
 have a0:=HK0.at_ (i:=0) rfl
 have a1:=HK0.at_ (i:=1) rfl
 have b0:=HK1.at_ (i:=0) rfl
 have b1:=HK1.at_ (i:=1) rfl
 have hs3:w.heap.size+1+1<w1.heap.size:=HK2.lt
 go_upto_region 4 with (fail)
 have hHKG:=(Blk.new w1 71 [.bool x1,.slice X1 y1 z1])
 have hb:Below w1.heap.size w1 (w1.alloc (.cells #[.bool x1,.slice X1 y1 z1] 71)):=bA
 clear a0 a1 b0 b1
 generalize w1.alloc (.cells #[.bool x1,.slice X1 y1 z1] 71)=W1 at *
 have HKG:=oH hHKG
 replace HK0:=oH (HK0.below hb)
 replace HK1:=oH (HK1.below hb)
 replace HK2:=oH (HK2.below hb)
 replace HN:=oH (HN.below hb)
 replace HD:=oH (HD.below hb)
 replace HG:=oH (HG.below hb)
 replace HB:=oH (HB.trans (hb.mono HB.size))
 clear hb hHKG
 have a0:=HK0.at_ (i:=0) rfl
 have a1:=HK0.at_ (i:=1) rfl
 have b0:=HK1.at_ (i:=0) rfl
 have b1:=HK1.at_ (i:=1) rfl
 have hs4:w1.heap.size<W1.heap.size:=HKG.lt
 obtain ⟨gb,hgb⟩:∃ gb,w1.heap.size=gb:=⟨_,rfl⟩
 rw [hgb] at HKG hs3 hs4 ⊢
 clear hgb hs2
 have g0:=HKG.at_ (i:=0) rfl
 have g1:=HKG.at_ (i:=1) rfl
 go_wp2_with fail
 refine (HQ1.out _ _ W1 HN.out HG.out).mono ?_
 rintro e w2 ⟨v2,u2,rfl,hv,hu,hb⟩
 replace HK0:=oH (HK0.below hb)
 replace HK1:=oH (HK1.below hb)
 replace HK2:=oH (HK2.below hb)
 replace HN:=oH (HN.below hb)
 replace HD:=oH (HD.below hb)
 replace HG:=oH (HG.below hb)
 replace HKG:=oH (HKG.below hb)
 have HN1:=oH hv
 obtain ⟨x2,X2,y2,z2,rfl⟩:=hv.slice
 replace HB:=oH (HB.trans (hb.mono HB.size))
 clear hb hv a0 a1 b0 b1 g0 g1
 have a0:=HK0.at_ (i:=0) rfl
 have a1:=HK0.at_ (i:=1) rfl
 have b0:=HK1.at_ (i:=0) rfl
 have b1:=HK1.at_ (i:=1) rfl
 have g0:=HKG.at_ (i:=0) rfl
 have g1:=HKG.at_ (i:=1) rfl
 obtain ⟨p2,P2,q2,r2,rfl⟩:=hu.slice
 clear hu
 have hs5:gb<w2.heap.size:=HKG.lt
 go_upto_region 5 with (fail)
 have hHKN:=((Blk.new w2 71 [.bool x2,.slice X2 y2 z2]).alloc (.cells #[.bool p2,.slice P2 q2 r2] 71))
 have hHKN1:=(Blk.new (w2.alloc (.cells #[.bool x2,.slice X2 y2 z2] 71)) 71 [.bool p2,.slice P2 q2 r2])
 rw [World.size_alloc] at hHKN1
 have hb:Below w2.heap.size w2 ((w2.alloc (.cells #[.bool x2,.slice X2 y2 z2] 71)).alloc (.cells #[.bool p2,.slice P2 q2 r2] 71)):=(bA).alloc sMx _
 clear a0 a1 b0 b1 g0 g1
 generalize (w2.alloc (.cells #[.bool x2,.slice X2 y2 z2] 71)).alloc (.cells #[.bool p2,.slice P2 q2 r2] 71)=W2 at *
 have HKN:=oH hHKN
 have HKN1:=oH hHKN1
 replace HK0:=oH (HK0.below hb)
 replace HK1:=oH (HK1.below hb)
 replace HK2:=oH (HK2.below hb)
 replace HN:=oH (HN.below hb)
 replace HD:=oH (HD.below hb)
 replace HG:=oH (HG.below hb)
 replace HKG:=oH (HKG.below hb)
 replace HN1:=oH (HN1.below hb)
 replace HB:=oH (HB.trans (hb.mono HB.size))
 clear hb hHKN hHKN1
 have a0:=HK0.at_ (i:=0) rfl
 have a1:=HK0.at_ (i:=1) rfl
 have b0:=HK1.at_ (i:=0) rfl
 have b1:=HK1.at_ (i:=1) rfl
 have g0:=HKG.at_ (i:=0) rfl
 have g1:=HKG.at_ (i:=1) rfl
 have hs6:w2.heap.size+1<W2.heap.size:=HKN1.lt
 obtain ⟨gn,hgn⟩:∃ gn,w2.heap.size=gn:=⟨_,rfl⟩
 rw [hgn] at HKN hs5 hs6 ⊢
 clear hgn HKN1
 go_wp2_with fail
 refine (HQ2.out _ _ W2 HD.out HG.out).mono ?_
 rintro e w3 ⟨v3,u3,rfl,hv,hu,hb⟩
 replace HK0:=oH (HK0.below hb)
 replace HK1:=oH (HK1.below hb)
 replace HK2:=oH (HK2.below hb)
 replace HN:=oH (HN.below hb)
 replace HD:=oH (HD.below hb)
 replace HG:=oH (HG.below hb)
 replace HKG:=oH (HKG.below hb)
 replace HN1:=oH (HN1.below hb)
 replace HKN:=oH (HKN.below hb)
 have HD1:=oH hv
 obtain ⟨x3,X3,y3,z3,rfl⟩:=hv.slice
 replace HB:=oH (HB.trans (hb.mono HB.size))
 clear hb hv a0 a1 b0 b1 g0 g1
 have a0:=HK0.at_ (i:=0) rfl
 have a1:=HK0.at_ (i:=1) rfl
 have b0:=HK1.at_ (i:=0) rfl
 have b1:=HK1.at_ (i:=1) rfl
 have g0:=HKG.at_ (i:=0) rfl
 have g1:=HKG.at_ (i:=1) rfl
 obtain ⟨p3,P3,q3,r3,rfl⟩:=hu.slice
 clear hu
 have hs7:gn<w3.heap.size:=HKN.lt
 go_upto_region 6 with (fail)
 clear a0 a1
 clear b0 b1
 clear g0 g1
 have hHKD:=((Blk.new w3 71 [.bool x3,.slice X3 y3 z3]).alloc (.cells #[.bool p3,.slice P3 q3 r3] 71))
 have hHKD1:=(Blk.new (w3.alloc (.cells #[.bool x3,.slice X3 y3 z3] 71)) 71 [.bool p3,.slice P3 q3 r3])
 rw [World.size_alloc] at hHKD1
 have hb:Below w3.heap.size w3 ((w3.alloc (.cells #[.bool x3,.slice X3 y3 z3] 71)).alloc (.cells #[.bool p3,.slice P3 q3 r3] 71)):=(bA).alloc sMx _
 generalize (w3.alloc (.cells #[.bool x3,.slice X3 y3 z3] 71)).alloc (.cells #[.bool p3,.slice P3 q3 r3] 71)=W3 at *
 have HKD:=oH hHKD
 have HKD1:=oH hHKD1
 replace HK0:=oH (HK0.below hb)
 replace HK1:=oH (HK1.below hb)
 replace HK2:=oH (HK2.below hb)
 replace HN:=oH (HN.below hb)
 replace HD:=oH (HD.below hb)
 replace HG:=oH (HG.below hb)
 replace HKG:=oH (HKG.below hb)
 replace HN1:=oH (HN1.below hb)
 replace HKN:=oH (HKN.below hb)
 replace HD1:=oH (HD1.below hb)
 replace HB:=oH (HB.trans (hb.mono HB.size))
 clear hb hHKD hHKD1
 obtain ⟨gd,hgd⟩:∃ gd,w3.heap.size=gd:=⟨_,rfl⟩
 rw [hgd] at HKD hs7 ⊢
 clear hgd HKD1 HK0 HK1 HKG HN HD HG
 have a0:=HKN.at_ (i:=0) rfl
 have a1:=HKN.at_ (i:=1) rfl
 have fa0:=HKN.fr 0
 have fa1:=HKN.fr 1
 have b0:=HKD.at_ (i:=0) rfl
 have b1:=HKD.at_ (i:=1) rfl
 have fb0:=HKD.fr 0
 have fb1:=HKD.fr 1
 have HX3:=oH HD1.parts.1
 go_upto_if 31 with (fail)
 go_cut [] (fun wc=>RNewS w gn gd (Rat.divInt n d).num ((Rat.divInt n d).den:Int) wc)
 case first =>
  by_cases hd2:d<0
  ·have e1:x3=true:=by rw [HX3.out];exact decide_eq_true (hsn.2 hd2)
   have E1:Hid ((Rat.divInt n d).num = -n1):=oH (by rw [HQ.1,if_pos hd2])
   have E2:Hid (((Rat.divInt n d).den:Int) = -d1):=oH (by rw [HQ.2,if_pos hd2])
   subst e1
   clear HX3 hd2 HQ hsn
   go_wp2_with fail
   go_region_with (first|(go_at_call 157;(with_reducible refine (zXs _ d1 _ HD16.out oMx).mono ?_);rintro e w7 ⟨v7,rfl,hv,hb⟩;have HV7:=oH hv;have HKN7:=oH (HKN6.out.below hb);have HKD7:=oH (HKD6.out.below hb);have HK27:=oH (HK26.out.below hb);have HU7:=oH (HU6.out.below hb);have HB7:=oH (HB6.out.trans (hb.mono HB6.out.size));have aa70:=HKN7.out.at_ (i:=0) rfl;have faa70:=HKN7.out.fr 0;have aa71:=HKN7.out.at_ (i:=1) rfl;have faa71:=HKN7.out.fr 1;have bb70:=HKD7.out.at_ (i:=0) rfl;have fbb70:=HKD7.out.fr 0;have bb71:=HKD7.out.at_ (i:=1) rfl;have fbb71:=HKD7.out.fr 1;obtain ⟨x7,X7,y7,z7,rfl⟩:=hv.slice;clear hv hb)|(go_at_call 157;(with_reducible refine (zXs _ n1 _ HN1.out.drew oMx).mono ?_);rintro e w6 ⟨v6,rfl,hv,hb⟩;have HU6:=oH hv;have HKN6:=oH (HKN.out.drew.below hb);have HKD6:=oH (HKD.out.drew.below hb);have HK26:=oH (HK2.out.drew.below hb);have HD16:=oH (HD1.out.drew.below hb);have HB6:=oH (HB.out.drew.trans (hb.mono HB.out.size));have aa60:=HKN6.out.at_ (i:=0) rfl;have faa60:=HKN6.out.fr 0;have aa61:=HKN6.out.at_ (i:=1) rfl;have faa61:=HKN6.out.fr 1;have bb60:=HKD6.out.at_ (i:=0) rfl;have fbb60:=HKD6.out.fr 0;have bb61:=HKD6.out.at_ (i:=1) rfl;have fbb61:=HKD6.out.fr 1;obtain ⟨x6,X6,y6,z6,rfl⟩:=hv.slice;clear hv hb))
   all_goals
    go_wp2_with fail
    go_meet
    rw [E1.out,E2.out]
    exact RNewS.store HKN7.out HKD7.out HK27.out HU7.out HV7.out HB7.out oMx oMx oMx oMx oMx
  ·have e1:x3=false:=by rw [HX3.out];exact decide_eq_false (fun h=>hd2 (hsn.1 h))
   have E1:Hid ((Rat.divInt n d).num=n1):=oH (by rw [HQ.1,if_neg hd2])
   have E2:Hid (((Rat.divInt n d).den:Int)=d1):=oH (by rw [HQ.2,if_neg hd2])
   subst e1
   clear HX3 hd2 HQ hsn
   go_wp2_with fail
   go_meet
   rw [E1.out,E2.out]
   exact ⟨_,_,_,_,_,_,_,_,HKN.out,HKD.out,HK2.out,HN1.out,HD1.out,HB.out⟩
 case rest =>
  clear HKN HKD HK2 HN1 HD1 HB a0 a1 fa0 fa1 b0 b1 fb0 fb1 HX3
  obtain ⟨na',nb',D,D',l1,c1,l1',c1',hk0,hk1,hk2,hn,hd,hb⟩:=hcut
  have HKN:=oH hk0
  have HKD:=oH hk1
  have HK2:=oH hk2
  have HN:=oH hn
  have HD:=oH hd
  have HB:=oH hb
  clear hk0 hk1 hk2 hn hd hb
  have a0:=HKN.at_ (i:=0) rfl
  have a1:=HKN.at_ (i:=1) rfl
  have b0:=HKD.at_ (i:=0) rfl
  have b1:=HKD.at_ (i:=1) rfl
  have r0:=HK2.at_ (i:=0) rfl
  have r1:=HK2.at_ (i:=1) rfl
  have r2:=HK2.at_ (i:=2) rfl
  have r3:=HK2.at_ (i:=3) rfl
  have fr0:=HK2.fr 0
  have fr1:=HK2.fr 1
  have fr2:=HK2.fr 2
  have fr3:=HK2.fr 3
  go_wp2_with fail
  refine bodyPost_ret (v := .agg #[.bool na',.slice D l1 c1,.bool nb',.slice D' l1' c1']) (by simp [results,Tryz.results101,go_sem, *]) rfl ?_
  exact zXo HK2.out zSs HB.out oMx (zCf.mk (q:=Rat.divInt n d) HN.out HD.out rfl rfl) rfl
end Go.Proofs.YtfjjcoggoomlbaaGreatDoor
namespace Go.Proofs.YtfjjcoggoomlbaaGreatDoor
open Go.RowKit
theorem str_1l:Lib.itoa 1=[49]:=by rw [←xCf,str_1,Lib.toList_data]
theorem zDn (u v:Value) (a b:Rat) (w:World) (ha:zCf w u a) (hb:zCf w v b) (sa:Sz 1000000 a) (sb:Sz 1000000 b) :
  Calls Tryz.prog 46 #[u,v] w (zFv w (a+b)):=by
 have an:=sa.n
 have ad:=sa.d
 have bn:=sb.n
 have bd:=sb.d
 have ld:=zPr ad bd
 have l1:=zPr an bd
 have l2:=zPr bn ad
 have l3:=zPq l1 l2
 have EQ:=oH (zWq a b)
 have hdd:(a.den:Int)*(b.den:Int)≠0:=Int.mul_ne_zero (zLj a) (zLj b)
 have HA:=oH ha
 obtain ⟨na,nb,A,A',l,c,l',c',rfl,h1,h2⟩:=ha.open_
 have HAN:=oH h1
 have HAD:=oH h2
 clear ha h1 h2
 obtain ⟨ma,mb,B,B',m,d,m',d',rfl,h1,h2⟩:=hb.open_
 have HBN:=oH h1
 have HBD:=oH h2
 clear hb h1 h2
 clear HA
 go_enter Tryz.func46,Tryz.ntmps46
 go_wp2_with fail
 have hHK:=(((Blk.new w 73 [.bool na,.slice A l c,.bool nb,.slice A' l' c']).alloc (.cells #[.bool ma,.slice B m d,.bool mb,.slice B' m' d'] 73)).alloc (.cells #[.bool false,.slice none 0 0,.bool false,.slice none 0 0] 73))
 have hHL:=((Blk.new (w.alloc (.cells #[.bool na,.slice A l c,.bool nb,.slice A' l' c'] 73)) 73 [.bool ma,.slice B m d,.bool mb,.slice B' m' d']).alloc (.cells #[.bool false,.slice none 0 0,.bool false,.slice none 0 0] 73))
 rw [World.size_alloc] at hHL
 have hHR:=(Blk.new ((w.alloc (.cells #[.bool na,.slice A l c,.bool nb,.slice A' l' c'] 73)).alloc (.cells #[.bool ma,.slice B m d,.bool mb,.slice B' m' d'] 73)) 73 [.bool false,.slice none 0 0,.bool false,.slice none 0 0])
 rw [World.size_alloc] at hHR
 rw [World.size_alloc] at hHR
 have hB0:Below w.heap.size w (((w.alloc (.cells #[.bool na,.slice A l c,.bool nb,.slice A' l' c'] 73)).alloc (.cells #[.bool ma,.slice B m d,.bool mb,.slice B' m' d'] 73)).alloc (.cells #[.bool false,.slice none 0 0,.bool false,.slice none 0 0] 73)):=((bA).alloc sMx _).alloc (by simp;omega) _
 generalize ((w.alloc (.cells #[.bool na,.slice A l c,.bool nb,.slice A' l' c'] 73)).alloc (.cells #[.bool ma,.slice B m d,.bool mb,.slice B' m' d'] 73)).alloc (.cells #[.bool false,.slice none 0 0,.bool false,.slice none 0 0] 73)=W at *
 have HK:=oH hHK
 have HL:=oH hHL
 have HR:=oH hHR
 have HB:=oH hB0
 clear hB0 hHK hHL hHR
 replace HAN:=oH (HAN.below HB.out)
 replace HAD:=oH (HAD.below HB.out)
 replace HBN:=oH (HBN.below HB.out)
 replace HBD:=oH (HBD.below HB.out)
 have ca0:=HK.at_ (i:=0) rfl
 have ca1:=HK.at_ (i:=1) rfl
 have ca2:=HK.at_ (i:=2) rfl
 have ca3:=HK.at_ (i:=3) rfl
 have cb0:=HL.at_ (i:=0) rfl
 have cb1:=HL.at_ (i:=1) rfl
 have cb2:=HL.at_ (i:=2) rfl
 have cb3:=HL.at_ (i:=3) rfl
 have P0:=oH (Blk.c44 HK.drew HL.drew)
 go_region_held3 (fun w'=>C44 w' w.heap.size (w.heap.size+1) (.bool na) (.slice A l c) (.bool nb) (.slice A' l' c') (.bool ma) (.slice B m d) (.bool mb) (.slice B' m' d')) (first|with_reducible exact P0.out|with_reducible exact P5.out|with_reducible exact P6.out|with_reducible exact P7.out|with_reducible exact P8.out|with_reducible exact P9.out|with_reducible exact Q9.out _ _ _ _|go_keep) (first|(go_at_call 101;(with_reducible refine (zEl _ _ _ _ _ HZ8.out HT8.out oMx oMx hdd).mono ?_);rintro e w9 ⟨v9,rfl,hv,hb⟩;have HK9:=oH (HK8.out.below hb);have HL9:=oH (HL8.out.below hb);have HR9:=oH (HR8.out.below hb);have HAN9:=oH (HAN8.out.below hb);have HAD9:=oH (HAD8.out.below hb);have HBN9:=oH (HBN8.out.below hb);have HBD9:=oH (HBD8.out.below hb);have HX9:=oH (HX8.out.below hb);have HY9:=oH (HY8.out.below hb);have HZ9:=oH (HZ8.out.below hb);have HT9:=oH (HT8.out.below hb);have HB9:=oH (HB8.out.trans (hb.mono HB8.out.size));have HF9:=oH hv;obtain ⟨x9,x9',X9,X9',y9,z9,y9',z9',rfl⟩:=hv.slice;have P9:=oH (Blk.c44 HK9.out HL9.out);have Q9:=oH (fun z0 z1 z2 z3=>Blk.c44_4 (r:=w.heap.size+1+1) HK9.out HL9.out oMx oMx z0 z1 z2 z3);have r0:=HR9.out.at_ (i:=0) rfl;have r1:=HR9.out.at_ (i:=1) rfl;have r2:=HR9.out.at_ (i:=2) rfl;have r3:=HR9.out.at_ (i:=3) rfl;have fr0:=HR9.out.fr 0;have fr1:=HR9.out.fr 1;have fr2:=HR9.out.fr 2;have fr3:=HR9.out.fr 3;clear hb hv)|(go_at_call 107;(with_reducible refine (zEk _ _ (a.den:Int) (b.den:Int) _ HAD7.out HBD7.out oMx oMx).mono ?_);rintro e w8 ⟨v8,rfl,hv,hb⟩;have HK8:=oH (HK7.out.below hb);have HL8:=oH (HL7.out.below hb);have HR8:=oH (HR7.out.below hb);have HAN8:=oH (HAN7.out.below hb);have HAD8:=oH (HAD7.out.below hb);have HBN8:=oH (HBN7.out.below hb);have HBD8:=oH (HBD7.out.below hb);have HX8:=oH (HX7.out.below hb);have HY8:=oH (HY7.out.below hb);have HZ8:=oH (HZ7.out.below hb);have HB8:=oH (HB7.out.trans (hb.mono HB7.out.size));have HT8:=oH hv;obtain ⟨x8,X8,y8,z8,rfl⟩:=hv.slice;have P8:=oH (Blk.c44 HK8.out HL8.out);clear hb hv)|(go_at_call 108;(with_reducible refine (zDi _ _ _ _ _ HX6.out HY6.out oMx oMx).mono ?_);rintro e w7 ⟨v7,rfl,hv,hb⟩;have HK7:=oH (HK6.out.below hb);have HL7:=oH (HL6.out.below hb);have HR7:=oH (HR6.out.below hb);have HAN7:=oH (HAN6.out.below hb);have HAD7:=oH (HAD6.out.below hb);have HBN7:=oH (HBN6.out.below hb);have HBD7:=oH (HBD6.out.below hb);have HX7:=oH (HX6.out.below hb);have HY7:=oH (HY6.out.below hb);have HB7:=oH (HB6.out.trans (hb.mono HB6.out.size));have HZ7:=oH hv;obtain ⟨x7,X7,y7,z7,rfl⟩:=hv.slice;have P7:=oH (Blk.c44 HK7.out HL7.out);clear hb hv)|(go_at_call 107;(with_reducible refine (zEk _ _ b.num (a.den:Int) _ HBN5.out HAD5.out oMx oMx).mono ?_);rintro e w6 ⟨v6,rfl,hv,hb⟩;have HK6:=oH (HK5.out.below hb);have HL6:=oH (HL5.out.below hb);have HR6:=oH (HR5.out.below hb);have HAN6:=oH (HAN5.out.below hb);have HAD6:=oH (HAD5.out.below hb);have HBN6:=oH (HBN5.out.below hb);have HBD6:=oH (HBD5.out.below hb);have HX6:=oH (HX5.out.below hb);have HB6:=oH (HB5.out.trans (hb.mono HB5.out.size));have HY6:=oH hv;obtain ⟨x6,X6,y6,z6,rfl⟩:=hv.slice;have P6:=oH (Blk.c44 HK6.out HL6.out);clear hb hv)|(go_at_call 107;(with_reducible refine (zEk _ _ a.num (b.den:Int) _ HAN.out.drew HBD.out.drew oMx oMx).mono ?_);rintro e w5 ⟨v5,rfl,hv,hb⟩;have HK5:=oH (HK.out.drew.below hb);have HL5:=oH (HL.out.drew.below hb);have HR5:=oH (HR.out.drew.below hb);have HAN5:=oH (HAN.out.drew.below hb);have HAD5:=oH (HAD.out.drew.below hb);have HBN5:=oH (HBN.out.drew.below hb);have HBD5:=oH (HBD.out.drew.below hb);have HB5:=oH (HB.out.drew.trans (hb.mono HB.out.size));have HX5:=oH hv;obtain ⟨x5,X5,y5,z5,rfl⟩:=hv.slice;have P5:=oH (Blk.c44 HK5.out HL5.out);clear hb hv))
 go_wp2_with fail
 refine bodyPost_ret (v := .agg #[.bool x9,.slice X9 y9 z9,.bool x9',.slice X9' y9' z9']) (by simp [results,Tryz.results46,go_sem, *]) rfl ?_
 exact zXo HR9.out zSs HB9.out oMx HF9.out EQ.out
theorem zDz (u v:Value) (a b:Rat) (w:World) (ha:zCf w u a) (hb:zCf w v b) (sa:Sz 1000000 a) (sb:Sz 1000000 b) :
  Calls Tryz.prog 100 #[u,v] w (zFv w (a-b)):=by
 have an:=sa.n
 have ad:=sa.d
 have bn:=sb.n
 have bd:=sb.d
 have ld:=zPr ad bd
 have l1:=zPr an bd
 have l2:=zPr bn ad
 have l3:=zPq (y := -(b.num*(a.den:Int))) l1 (by rw [Int.natAbs_neg];exact l2)
 have EQ:=oH (zWx a b)
 have hdd:(a.den:Int)*(b.den:Int)≠0:=Int.mul_ne_zero (zLj a) (zLj b)
 rw [←Int.sub_eq_add_neg] at l3
 have HA:=oH ha
 obtain ⟨na,nb,A,A',l,c,l',c',rfl,h1,h2⟩:=ha.open_
 have HAN:=oH h1
 have HAD:=oH h2
 clear ha h1 h2
 obtain ⟨ma,mb,B,B',m,d,m',d',rfl,h1,h2⟩:=hb.open_
 have HBN:=oH h1
 have HBD:=oH h2
 clear hb h1 h2
 clear HA
 go_enter Tryz.func100,Tryz.ntmps100
 go_wp2_with fail
 have hHK:=(((Blk.new w 73 [.bool na,.slice A l c,.bool nb,.slice A' l' c']).alloc (.cells #[.bool ma,.slice B m d,.bool mb,.slice B' m' d'] 73)).alloc (.cells #[.bool false,.slice none 0 0,.bool false,.slice none 0 0] 73))
 have hHL:=((Blk.new (w.alloc (.cells #[.bool na,.slice A l c,.bool nb,.slice A' l' c'] 73)) 73 [.bool ma,.slice B m d,.bool mb,.slice B' m' d']).alloc (.cells #[.bool false,.slice none 0 0,.bool false,.slice none 0 0] 73))
 rw [World.size_alloc] at hHL
 have hHR:=(Blk.new ((w.alloc (.cells #[.bool na,.slice A l c,.bool nb,.slice A' l' c'] 73)).alloc (.cells #[.bool ma,.slice B m d,.bool mb,.slice B' m' d'] 73)) 73 [.bool false,.slice none 0 0,.bool false,.slice none 0 0])
 rw [World.size_alloc] at hHR
 rw [World.size_alloc] at hHR
 have hB0:Below w.heap.size w (((w.alloc (.cells #[.bool na,.slice A l c,.bool nb,.slice A' l' c'] 73)).alloc (.cells #[.bool ma,.slice B m d,.bool mb,.slice B' m' d'] 73)).alloc (.cells #[.bool false,.slice none 0 0,.bool false,.slice none 0 0] 73)):=((bA).alloc sMx _).alloc (by simp;omega) _
 generalize ((w.alloc (.cells #[.bool na,.slice A l c,.bool nb,.slice A' l' c'] 73)).alloc (.cells #[.bool ma,.slice B m d,.bool mb,.slice B' m' d'] 73)).alloc (.cells #[.bool false,.slice none 0 0,.bool false,.slice none 0 0] 73)=W at *
 have HK:=oH hHK
 have HL:=oH hHL
 have HR:=oH hHR
 have HB:=oH hB0
 clear hB0 hHK hHL hHR
 replace HAN:=oH (HAN.below HB.out)
 replace HAD:=oH (HAD.below HB.out)
 replace HBN:=oH (HBN.below HB.out)
 replace HBD:=oH (HBD.below HB.out)
 have ca0:=HK.at_ (i:=0) rfl
 have ca1:=HK.at_ (i:=1) rfl
 have ca2:=HK.at_ (i:=2) rfl
 have ca3:=HK.at_ (i:=3) rfl
 have cb0:=HL.at_ (i:=0) rfl
 have cb1:=HL.at_ (i:=1) rfl
 have cb2:=HL.at_ (i:=2) rfl
 have cb3:=HL.at_ (i:=3) rfl
 have P0:=oH (Blk.c44 HK.drew HL.drew)
 go_region_held3 (fun w'=>C44 w' w.heap.size (w.heap.size+1) (.bool na) (.slice A l c) (.bool nb) (.slice A' l' c') (.bool ma) (.slice B m d) (.bool mb) (.slice B' m' d')) (first|with_reducible exact P0.out|with_reducible exact P5.out|with_reducible exact P6.out|with_reducible exact P7.out|with_reducible exact P8.out|with_reducible exact P9.out|with_reducible exact Q9.out _ _ _ _|go_keep) (first|(go_at_call 101;(with_reducible refine (zEl _ _ _ _ _ HZ8.out HT8.out oMx oMx hdd).mono ?_);rintro e w9 ⟨v9,rfl,hv,hb⟩;have HK9:=oH (HK8.out.below hb);have HL9:=oH (HL8.out.below hb);have HR9:=oH (HR8.out.below hb);have HAN9:=oH (HAN8.out.below hb);have HAD9:=oH (HAD8.out.below hb);have HBN9:=oH (HBN8.out.below hb);have HBD9:=oH (HBD8.out.below hb);have HX9:=oH (HX8.out.below hb);have HY9:=oH (HY8.out.below hb);have HZ9:=oH (HZ8.out.below hb);have HT9:=oH (HT8.out.below hb);have HB9:=oH (HB8.out.trans (hb.mono HB8.out.size));have HF9:=oH hv;obtain ⟨x9,x9',X9,X9',y9,z9,y9',z9',rfl⟩:=hv.slice;have P9:=oH (Blk.c44 HK9.out HL9.out);have Q9:=oH (fun z0 z1 z2 z3=>Blk.c44_4 (r:=w.heap.size+1+1) HK9.out HL9.out oMx oMx z0 z1 z2 z3);have r0:=HR9.out.at_ (i:=0) rfl;have r1:=HR9.out.at_ (i:=1) rfl;have r2:=HR9.out.at_ (i:=2) rfl;have r3:=HR9.out.at_ (i:=3) rfl;have fr0:=HR9.out.fr 0;have fr1:=HR9.out.fr 1;have fr2:=HR9.out.fr 2;have fr3:=HR9.out.fr 3;clear hb hv)|(go_at_call 107;(with_reducible refine (zEk _ _ (a.den:Int) (b.den:Int) _ HAD7.out HBD7.out oMx oMx).mono ?_);rintro e w8 ⟨v8,rfl,hv,hb⟩;have HK8:=oH (HK7.out.below hb);have HL8:=oH (HL7.out.below hb);have HR8:=oH (HR7.out.below hb);have HAN8:=oH (HAN7.out.below hb);have HAD8:=oH (HAD7.out.below hb);have HBN8:=oH (HBN7.out.below hb);have HBD8:=oH (HBD7.out.below hb);have HX8:=oH (HX7.out.below hb);have HY8:=oH (HY7.out.below hb);have HZ8:=oH (HZ7.out.below hb);have HB8:=oH (HB7.out.trans (hb.mono HB7.out.size));have HT8:=oH hv;obtain ⟨x8,X8,y8,z8,rfl⟩:=hv.slice;have P8:=oH (Blk.c44 HK8.out HL8.out);clear hb hv)|(go_at_call 156;(with_reducible refine (RSub_any _ _ _ _ _ HX6.out HY6.out oMx oMx).mono ?_);rintro e w7 ⟨v7,rfl,hv,hb⟩;have HK7:=oH (HK6.out.below hb);have HL7:=oH (HL6.out.below hb);have HR7:=oH (HR6.out.below hb);have HAN7:=oH (HAN6.out.below hb);have HAD7:=oH (HAD6.out.below hb);have HBN7:=oH (HBN6.out.below hb);have HBD7:=oH (HBD6.out.below hb);have HX7:=oH (HX6.out.below hb);have HY7:=oH (HY6.out.below hb);have HB7:=oH (HB6.out.trans (hb.mono HB6.out.size));have HZ7:=oH hv;obtain ⟨x7,X7,y7,z7,rfl⟩:=hv.slice;have P7:=oH (Blk.c44 HK7.out HL7.out);clear hb hv)|(go_at_call 107;(with_reducible refine (zEk _ _ b.num (a.den:Int) _ HBN5.out HAD5.out oMx oMx).mono ?_);rintro e w6 ⟨v6,rfl,hv,hb⟩;have HK6:=oH (HK5.out.below hb);have HL6:=oH (HL5.out.below hb);have HR6:=oH (HR5.out.below hb);have HAN6:=oH (HAN5.out.below hb);have HAD6:=oH (HAD5.out.below hb);have HBN6:=oH (HBN5.out.below hb);have HBD6:=oH (HBD5.out.below hb);have HX6:=oH (HX5.out.below hb);have HB6:=oH (HB5.out.trans (hb.mono HB5.out.size));have HY6:=oH hv;obtain ⟨x6,X6,y6,z6,rfl⟩:=hv.slice;have P6:=oH (Blk.c44 HK6.out HL6.out);clear hb hv)|(go_at_call 107;(with_reducible refine (zEk _ _ a.num (b.den:Int) _ HAN.out.drew HBD.out.drew oMx oMx).mono ?_);rintro e w5 ⟨v5,rfl,hv,hb⟩;have HK5:=oH (HK.out.drew.below hb);have HL5:=oH (HL.out.drew.below hb);have HR5:=oH (HR.out.drew.below hb);have HAN5:=oH (HAN.out.drew.below hb);have HAD5:=oH (HAD.out.drew.below hb);have HBN5:=oH (HBN.out.drew.below hb);have HBD5:=oH (HBD.out.drew.below hb);have HB5:=oH (HB.out.drew.trans (hb.mono HB.out.size));have HX5:=oH hv;obtain ⟨x5,X5,y5,z5,rfl⟩:=hv.slice;have P5:=oH (Blk.c44 HK5.out HL5.out);clear hb hv))
 go_wp2_with fail
 refine bodyPost_ret (v := .agg #[.bool x9,.slice X9 y9 z9,.bool x9',.slice X9' y9' z9']) (by simp [results,Tryz.results100,go_sem, *]) rfl ?_
 exact zXo HR9.out zSs HB9.out oMx HF9.out EQ.out
theorem zDr (u v:Value) (a b:Rat) (w:World) (ha:zCf w u a) (hb:zCf w v b) (sa:Sz 1000000 a) (sb:Sz 1000000 b) :
  Calls Tryz.prog 48 #[u,v] w (zFv w (a*b)):=by
 have an:=sa.n
 have ad:=sa.d
 have bn:=sb.n
 have bd:=sb.d
 have ld:=zPr ad bd
 have l3:=zPr an bn
 have EQ:=oH (zWt a b)
 have hdd:(a.den:Int)*(b.den:Int)≠0:=Int.mul_ne_zero (zLj a) (zLj b)
 have HA:=oH ha
 obtain ⟨na,nb,A,A',l,c,l',c',rfl,h1,h2⟩:=ha.open_
 have HAN:=oH h1
 have HAD:=oH h2
 clear ha h1 h2
 obtain ⟨ma,mb,B,B',m,d,m',d',rfl,h1,h2⟩:=hb.open_
 have HBN:=oH h1
 have HBD:=oH h2
 clear hb h1 h2
 clear HA
 go_enter Tryz.func48,Tryz.ntmps48
 go_wp2_with fail
 have hHK:=(((Blk.new w 73 [.bool na,.slice A l c,.bool nb,.slice A' l' c']).alloc (.cells #[.bool ma,.slice B m d,.bool mb,.slice B' m' d'] 73)).alloc (.cells #[.bool false,.slice none 0 0,.bool false,.slice none 0 0] 73))
 have hHL:=((Blk.new (w.alloc (.cells #[.bool na,.slice A l c,.bool nb,.slice A' l' c'] 73)) 73 [.bool ma,.slice B m d,.bool mb,.slice B' m' d']).alloc (.cells #[.bool false,.slice none 0 0,.bool false,.slice none 0 0] 73))
 rw [World.size_alloc] at hHL
 have hHR:=(Blk.new ((w.alloc (.cells #[.bool na,.slice A l c,.bool nb,.slice A' l' c'] 73)).alloc (.cells #[.bool ma,.slice B m d,.bool mb,.slice B' m' d'] 73)) 73 [.bool false,.slice none 0 0,.bool false,.slice none 0 0])
 rw [World.size_alloc] at hHR
 rw [World.size_alloc] at hHR
 have hB0:Below w.heap.size w (((w.alloc (.cells #[.bool na,.slice A l c,.bool nb,.slice A' l' c'] 73)).alloc (.cells #[.bool ma,.slice B m d,.bool mb,.slice B' m' d'] 73)).alloc (.cells #[.bool false,.slice none 0 0,.bool false,.slice none 0 0] 73)):=((bA).alloc sMx _).alloc (by simp;omega) _
 generalize ((w.alloc (.cells #[.bool na,.slice A l c,.bool nb,.slice A' l' c'] 73)).alloc (.cells #[.bool ma,.slice B m d,.bool mb,.slice B' m' d'] 73)).alloc (.cells #[.bool false,.slice none 0 0,.bool false,.slice none 0 0] 73)=W at *
 have HK:=oH hHK
 have HL:=oH hHL
 have HR:=oH hHR
 have HB:=oH hB0
 clear hB0 hHK hHL hHR
 replace HAN:=oH (HAN.below HB.out)
 replace HAD:=oH (HAD.below HB.out)
 replace HBN:=oH (HBN.below HB.out)
 replace HBD:=oH (HBD.below HB.out)
 have ca0:=HK.at_ (i:=0) rfl
 have ca1:=HK.at_ (i:=1) rfl
 have ca2:=HK.at_ (i:=2) rfl
 have ca3:=HK.at_ (i:=3) rfl
 have cb0:=HL.at_ (i:=0) rfl
 have cb1:=HL.at_ (i:=1) rfl
 have cb2:=HL.at_ (i:=2) rfl
 have cb3:=HL.at_ (i:=3) rfl
 have P0:=oH (Blk.c44 HK.drew HL.drew)
 go_region_held3 (fun w'=>C44 w' w.heap.size (w.heap.size+1) (.bool na) (.slice A l c) (.bool nb) (.slice A' l' c') (.bool ma) (.slice B m d) (.bool mb) (.slice B' m' d')) (first|with_reducible exact P0.out|with_reducible exact P5.out|with_reducible exact P6.out|with_reducible exact P7.out|with_reducible exact Q7.out _ _ _ _|go_keep) (first|(go_at_call 101;(with_reducible refine (zEl _ _ _ _ _ HZ6.out HT6.out oMx oMx hdd).mono ?_);rintro e w7 ⟨v7,rfl,hv,hb⟩;have HK7:=oH (HK6.out.below hb);have HL7:=oH (HL6.out.below hb);have HR7:=oH (HR6.out.below hb);have HAN7:=oH (HAN6.out.below hb);have HAD7:=oH (HAD6.out.below hb);have HBN7:=oH (HBN6.out.below hb);have HBD7:=oH (HBD6.out.below hb);have HZ7:=oH (HZ6.out.below hb);have HT7:=oH (HT6.out.below hb);have HB7:=oH (HB6.out.trans (hb.mono HB6.out.size));have HF7:=oH hv;obtain ⟨x7,x7',X7,X7',y7,z7,y7',z7',rfl⟩:=hv.slice;have P7:=oH (Blk.c44 HK7.out HL7.out);have Q7:=oH (fun z0 z1 z2 z3=>Blk.c44_4 (r:=w.heap.size+1+1) HK7.out HL7.out oMx oMx z0 z1 z2 z3);have r0:=HR7.out.at_ (i:=0) rfl;have r1:=HR7.out.at_ (i:=1) rfl;have r2:=HR7.out.at_ (i:=2) rfl;have r3:=HR7.out.at_ (i:=3) rfl;have fr0:=HR7.out.fr 0;have fr1:=HR7.out.fr 1;have fr2:=HR7.out.fr 2;have fr3:=HR7.out.fr 3;clear hb hv)|(go_at_call 107;(with_reducible refine (zEk _ _ (a.den:Int) (b.den:Int) _ HAD5.out HBD5.out oMx oMx).mono ?_);rintro e w6 ⟨v6,rfl,hv,hb⟩;have HK6:=oH (HK5.out.below hb);have HL6:=oH (HL5.out.below hb);have HR6:=oH (HR5.out.below hb);have HAN6:=oH (HAN5.out.below hb);have HAD6:=oH (HAD5.out.below hb);have HBN6:=oH (HBN5.out.below hb);have HBD6:=oH (HBD5.out.below hb);have HZ6:=oH (HZ5.out.below hb);have HB6:=oH (HB5.out.trans (hb.mono HB5.out.size));have HT6:=oH hv;obtain ⟨x6,X6,y6,z6,rfl⟩:=hv.slice;have P6:=oH (Blk.c44 HK6.out HL6.out);clear hb hv)|(go_at_call 107;(with_reducible refine (zEk _ _ a.num b.num _ HAN.out.drew HBN.out.drew oMx oMx).mono ?_);rintro e w5 ⟨v5,rfl,hv,hb⟩;have HK5:=oH (HK.out.drew.below hb);have HL5:=oH (HL.out.drew.below hb);have HR5:=oH (HR.out.drew.below hb);have HAN5:=oH (HAN.out.drew.below hb);have HAD5:=oH (HAD.out.drew.below hb);have HBN5:=oH (HBN.out.drew.below hb);have HBD5:=oH (HBD.out.drew.below hb);have HB5:=oH (HB.out.drew.trans (hb.mono HB.out.size));have HZ5:=oH hv;obtain ⟨x5,X5,y5,z5,rfl⟩:=hv.slice;have P5:=oH (Blk.c44 HK5.out HL5.out);clear hb hv))
 go_wp2_with fail
 refine bodyPost_ret (v := .agg #[.bool x7,.slice X7 y7 z7,.bool x7',.slice X7' y7' z7']) (by simp [results,Tryz.results48,go_sem, *]) rfl ?_
 exact zXo HR7.out zSs HB7.out oMx HF7.out EQ.out
theorem zDo (u v:Value) (a b:Rat) (w:World) (ha:zCf w u a) (hb:zCf w v b) (sa:Sz 1000000 a) (sb:Sz 1000000 b) (hb0:b≠0) :
  Calls Tryz.prog 106 #[u,v] w (zFv w (a/b)):=by
 have an:=sa.n
 have ad:=sa.d
 have bn:=sb.n
 have bd:=sb.d
 have l3:=zPr an bd
 have ld:=zPr ad bn
 have EQ:=oH (zWr a b)
 have hdd:(a.den:Int)*b.num≠0:=Int.mul_ne_zero (zLj a) (zTh hb0)
 have HA:=oH ha
 obtain ⟨na,nb,A,A',l,c,l',c',rfl,h1,h2⟩:=ha.open_
 have HAN:=oH h1
 have HAD:=oH h2
 clear ha h1 h2
 obtain ⟨ma,mb,B,B',m,d,m',d',rfl,h1,h2⟩:=hb.open_
 have HBN:=oH h1
 have HBD:=oH h2
 clear hb h1 h2
 clear HA
 go_enter Tryz.func106,Tryz.ntmps106
 go_wp2_with fail
 have hHK:=(((Blk.new w 73 [.bool na,.slice A l c,.bool nb,.slice A' l' c']).alloc (.cells #[.bool ma,.slice B m d,.bool mb,.slice B' m' d'] 73)).alloc (.cells #[.bool false,.slice none 0 0,.bool false,.slice none 0 0] 73))
 have hHL:=((Blk.new (w.alloc (.cells #[.bool na,.slice A l c,.bool nb,.slice A' l' c'] 73)) 73 [.bool ma,.slice B m d,.bool mb,.slice B' m' d']).alloc (.cells #[.bool false,.slice none 0 0,.bool false,.slice none 0 0] 73))
 rw [World.size_alloc] at hHL
 have hHR:=(Blk.new ((w.alloc (.cells #[.bool na,.slice A l c,.bool nb,.slice A' l' c'] 73)).alloc (.cells #[.bool ma,.slice B m d,.bool mb,.slice B' m' d'] 73)) 73 [.bool false,.slice none 0 0,.bool false,.slice none 0 0])
 rw [World.size_alloc] at hHR
 rw [World.size_alloc] at hHR
 have hB0:Below w.heap.size w (((w.alloc (.cells #[.bool na,.slice A l c,.bool nb,.slice A' l' c'] 73)).alloc (.cells #[.bool ma,.slice B m d,.bool mb,.slice B' m' d'] 73)).alloc (.cells #[.bool false,.slice none 0 0,.bool false,.slice none 0 0] 73)):=((bA).alloc sMx _).alloc (by simp;omega) _
 generalize ((w.alloc (.cells #[.bool na,.slice A l c,.bool nb,.slice A' l' c'] 73)).alloc (.cells #[.bool ma,.slice B m d,.bool mb,.slice B' m' d'] 73)).alloc (.cells #[.bool false,.slice none 0 0,.bool false,.slice none 0 0] 73)=W at *
 have HK:=oH hHK
 have HL:=oH hHL
 have HR:=oH hHR
 have HB:=oH hB0
 clear hB0 hHK hHL hHR
 replace HAN:=oH (HAN.below HB.out)
 replace HAD:=oH (HAD.below HB.out)
 replace HBN:=oH (HBN.below HB.out)
 replace HBD:=oH (HBD.below HB.out)
 have ca0:=HK.at_ (i:=0) rfl
 have ca1:=HK.at_ (i:=1) rfl
 have ca2:=HK.at_ (i:=2) rfl
 have ca3:=HK.at_ (i:=3) rfl
 have cb0:=HL.at_ (i:=0) rfl
 have cb1:=HL.at_ (i:=1) rfl
 have cb2:=HL.at_ (i:=2) rfl
 have cb3:=HL.at_ (i:=3) rfl
 have P0:=oH (Blk.c44 HK.drew HL.drew)
 go_region_held3 (fun w'=>C44 w' w.heap.size (w.heap.size+1) (.bool na) (.slice A l c) (.bool nb) (.slice A' l' c') (.bool ma) (.slice B m d) (.bool mb) (.slice B' m' d')) (first|with_reducible exact P0.out|with_reducible exact P5.out|with_reducible exact P6.out|with_reducible exact P7.out|with_reducible exact Q7.out _ _ _ _|go_keep) (first|(go_at_call 101;(with_reducible refine (zEl _ _ _ _ _ HZ6.out HT6.out oMx oMx hdd).mono ?_);rintro e w7 ⟨v7,rfl,hv,hb⟩;have HK7:=oH (HK6.out.below hb);have HL7:=oH (HL6.out.below hb);have HR7:=oH (HR6.out.below hb);have HAN7:=oH (HAN6.out.below hb);have HAD7:=oH (HAD6.out.below hb);have HBN7:=oH (HBN6.out.below hb);have HBD7:=oH (HBD6.out.below hb);have HZ7:=oH (HZ6.out.below hb);have HT7:=oH (HT6.out.below hb);have HB7:=oH (HB6.out.trans (hb.mono HB6.out.size));have HF7:=oH hv;obtain ⟨x7,x7',X7,X7',y7,z7,y7',z7',rfl⟩:=hv.slice;have P7:=oH (Blk.c44 HK7.out HL7.out);have Q7:=oH (fun z0 z1 z2 z3=>Blk.c44_4 (r:=w.heap.size+1+1) HK7.out HL7.out oMx oMx z0 z1 z2 z3);have r0:=HR7.out.at_ (i:=0) rfl;have r1:=HR7.out.at_ (i:=1) rfl;have r2:=HR7.out.at_ (i:=2) rfl;have r3:=HR7.out.at_ (i:=3) rfl;have fr0:=HR7.out.fr 0;have fr1:=HR7.out.fr 1;have fr2:=HR7.out.fr 2;have fr3:=HR7.out.fr 3;clear hb hv)|(go_at_call 107;(with_reducible refine (zEk _ _ (a.den:Int) b.num _ HAD5.out HBN5.out oMx oMx).mono ?_);rintro e w6 ⟨v6,rfl,hv,hb⟩;have HK6:=oH (HK5.out.below hb);have HL6:=oH (HL5.out.below hb);have HR6:=oH (HR5.out.below hb);have HAN6:=oH (HAN5.out.below hb);have HAD6:=oH (HAD5.out.below hb);have HBN6:=oH (HBN5.out.below hb);have HBD6:=oH (HBD5.out.below hb);have HZ6:=oH (HZ5.out.below hb);have HB6:=oH (HB5.out.trans (hb.mono HB5.out.size));have HT6:=oH hv;obtain ⟨x6,X6,y6,z6,rfl⟩:=hv.slice;have P6:=oH (Blk.c44 HK6.out HL6.out);clear hb hv)|(go_at_call 107;(with_reducible refine (zEk _ _ a.num (b.den:Int) _ HAN.out.drew HBD.out.drew oMx oMx).mono ?_);rintro e w5 ⟨v5,rfl,hv,hb⟩;have HK5:=oH (HK.out.drew.below hb);have HL5:=oH (HL.out.drew.below hb);have HR5:=oH (HR.out.drew.below hb);have HAN5:=oH (HAN.out.drew.below hb);have HAD5:=oH (HAD.out.drew.below hb);have HBN5:=oH (HBN.out.drew.below hb);have HBD5:=oH (HBD.out.drew.below hb);have HB5:=oH (HB.out.drew.trans (hb.mono HB.out.size));have HZ5:=oH hv;obtain ⟨x5,X5,y5,z5,rfl⟩:=hv.slice;have P5:=oH (Blk.c44 HK5.out HL5.out);clear hb hv))
 go_wp2_with fail
 refine bodyPost_ret (v := .agg #[.bool x7,.slice X7 y7 z7,.bool x7',.slice X7' y7' z7']) (by simp [results,Tryz.results106,go_sem, *]) rfl ?_
 exact zXo HR7.out zSs HB7.out oMx HF7.out EQ.out
theorem zEe (u:Value) (a:Rat) (w:World) (ha:zCf w u a) (h:a=0) :
  Calls Tryz.prog 149 #[u] w fun e w'=>e = .returned (.bool true)∧Below w.heap.size w w':=by
 have HA:=oH ha
 obtain ⟨na,nb,A,A',l,c,l',c',rfl,h1,h2⟩:=ha.open_
 have HAN:=oH h1
 have HAD:=oH h2
 clear ha h1 h2
 have hl:=HAN.parts.2
 have hz:((l:Int)==0)=true:=by rw [hl,h];show (((limbs (0:Rat).num.natAbs).length:Int)==0)=true;rw [show (0:Rat).num.natAbs=0 from rfl,zQu];rfl
 clear hl h HA HAN HAD
 go_enter Tryz.func149,Tryz.ntmps149
 go_wp2_with fail
 go_ret
 exact ⟨rfl,bA⟩
theorem zEd (u:Value) (a:Rat) (w:World) (ha:zCf w u a) (h:a≠0) :
  Calls Tryz.prog 149 #[u] w fun e w'=>e = .returned (.bool false)∧Below w.heap.size w w':=by
 have HA:=oH ha
 obtain ⟨na,nb,A,A',l,c,l',c',rfl,h1,h2⟩:=ha.open_
 have HAN:=oH h1
 have HAD:=oH h2
 clear ha h1 h2
 have hl:=HAN.parts.2
 have hz:((l:Int)==0)=false:=by rw [hl,beq_eq_false_iff_ne];have:=zQm.2 (show a.num.natAbs≠0 by have:=zTh h;omega);omega
 clear hl h HA HAN HAD
 go_enter Tryz.func149,Tryz.ntmps149
 go_wp2_with fail
 go_ret
 exact ⟨rfl,bA⟩
theorem zDp (u:Value) (a:Rat) (w:World) (ha:zCf w u a) (sa:Sz 1000000 a) :
  Calls Tryz.prog 49 #[u] w fun e w'=>e = .returned (.tuple #[.string (outR a),.int .i64 (zUk a)])∧Below w.heap.size w w':=by
 have an:=sa.n
 have ad:=sa.d
 have HA:=oH ha
 obtain ⟨na,nb,A,A',l,c,l',c',rfl,h1,h2⟩:=ha.open_
 have HAN:=oH h1
 have HAD:=oH h2
 clear ha h1 h2
 clear HA
 have HG1:=oH (fun U W (hU:zBz W U a.num)=>zEh U a.num W hU an)
 have HG2:=oH (fun U W (hU:zBz W U (a.den:Int))=>zEh U (a.den:Int) W hU ad)
 by_cases h1:Fits a.num
 ·rw [zUp h1,zUj h1] at HG1
  have z1:=xCc h1
  by_cases h2:Fits (a.den:Int)
  ·rw [zUp h2,zUj h2] at HG2
   have E1:=oH (zUn (q:=a) ⟨h1,h2⟩)
   have E2:=oH (zUl (q:=a) ⟨h1,h2⟩)
   have z2:=xCc h2
   clear h1 h2
   by_cases h3:a.den=1
   ·have hq:((str (a.den:Int)).toList==[49])=true:=by rw [h3];show ((str 1).toList==[49])=true;rw [str_1,Lib.toList_data];rfl
    have E3:=oH (zYr h3)
    generalize str (a.den:Int)=s2 at *
    clear h3
    go_enter Tryz.func49,Tryz.ntmps49
    go_wp2_with fail
    have hHK:=(Blk.new w 73 [.bool na,.slice A l c,.bool nb,.slice A' l' c'])
    have hB0:Below w.heap.size w (w.alloc (.cells #[.bool na,.slice A l c,.bool nb,.slice A' l' c'] 73)):=bA
    generalize w.alloc (.cells #[.bool na,.slice A l c,.bool nb,.slice A' l' c'] 73)=W at *
    have HK:=oH hHK
    have HB:=oH hB0
    clear hB0 hHK
    replace HAN:=oH (HAN.below HB.out)
    replace HAD:=oH (HAD.below HB.out)
    refine (HG1.out _ W HAN.out).mono ?_
    rintro e w1 ⟨rfl,hb⟩
    replace HK:=oH (HK.below hb)
    replace HAN:=oH (HAN.below hb)
    replace HAD:=oH (HAD.below hb)
    replace HB:=oH (HB.trans (hb.mono HB.size))
    clear hb
    have k0:=HK.at_ (i:=0) rfl
    have k1:=HK.at_ (i:=1) rfl
    have k2:=HK.at_ (i:=2) rfl
    have k3:=HK.at_ (i:=3) rfl
    go_wp2_with fail
    refine (HG2.out _ w1 HAD.out).mono ?_
    rintro e w2 ⟨rfl,hb⟩
    replace HK:=oH (HK.below hb)
    replace HAN:=oH (HAN.below hb)
    replace HAD:=oH (HAD.below hb)
    replace HB:=oH (HB.trans (hb.mono HB.size))
    clear hb k0 k1 k2 k3
    have k0:=HK.at_ (i:=0) rfl
    have k1:=HK.at_ (i:=1) rfl
    have k2:=HK.at_ (i:=2) rfl
    have k3:=HK.at_ (i:=3) rfl
    go_wp2_with fail
    go_ret2
    exact ⟨by rw [E1.out,E2.out,E3.out];rfl,HB.out⟩
   ·have hq:((str (a.den:Int)).toList==[49])=false:=by rw [←str_1l,beq_eq_false_iff_ne,xCf];exact fun e=>h3 (by have:=zOl e;omega)
    have E3:=oH (zYp h3)
    generalize str a.num=s1 at *
    generalize str (a.den:Int)=s2 at *
    clear h3
    go_enter Tryz.func49,Tryz.ntmps49
    go_wp2_with fail
    have hHK:=(Blk.new w 73 [.bool na,.slice A l c,.bool nb,.slice A' l' c'])
    have hB0:Below w.heap.size w (w.alloc (.cells #[.bool na,.slice A l c,.bool nb,.slice A' l' c'] 73)):=bA
    generalize w.alloc (.cells #[.bool na,.slice A l c,.bool nb,.slice A' l' c'] 73)=W at *
    have HK:=oH hHK
    have HB:=oH hB0
    clear hB0 hHK
    replace HAN:=oH (HAN.below HB.out)
    replace HAD:=oH (HAD.below HB.out)
    refine (HG1.out _ W HAN.out).mono ?_
    rintro e w1 ⟨rfl,hb⟩
    replace HK:=oH (HK.below hb)
    replace HAN:=oH (HAN.below hb)
    replace HAD:=oH (HAD.below hb)
    replace HB:=oH (HB.trans (hb.mono HB.size))
    clear hb
    have k0:=HK.at_ (i:=0) rfl
    have k1:=HK.at_ (i:=1) rfl
    have k2:=HK.at_ (i:=2) rfl
    have k3:=HK.at_ (i:=3) rfl
    go_wp2_with fail
    refine (HG2.out _ w1 HAD.out).mono ?_
    rintro e w2 ⟨rfl,hb⟩
    replace HK:=oH (HK.below hb)
    replace HAN:=oH (HAN.below hb)
    replace HAD:=oH (HAD.below hb)
    replace HB:=oH (HB.trans (hb.mono HB.size))
    clear hb k0 k1 k2 k3
    have k0:=HK.at_ (i:=0) rfl
    have k1:=HK.at_ (i:=1) rfl
    have k2:=HK.at_ (i:=2) rfl
    have k3:=HK.at_ (i:=3) rfl
    go_wp2_with fail
    go_ret2
    exact ⟨by rw [E1.out,E2.out,←E3.out];rfl,HB.out⟩
  ·rw [show outS (a.den:Int)=⟨#[]⟩ from if_neg h2,show outE (a.den:Int)=3 from if_neg h2] at HG2
   have E1:=oH (zUo (q:=a) (fun h=>h2 h.2))
   have E2:=oH (zUm (q:=a) (fun h=>h2 h.2))
   clear h1 h2
   go_enter Tryz.func49,Tryz.ntmps49
   go_wp2_with fail
   have hHK:=(Blk.new w 73 [.bool na,.slice A l c,.bool nb,.slice A' l' c'])
   have hB0:Below w.heap.size w (w.alloc (.cells #[.bool na,.slice A l c,.bool nb,.slice A' l' c'] 73)):=bA
   generalize w.alloc (.cells #[.bool na,.slice A l c,.bool nb,.slice A' l' c'] 73)=W at *
   have HK:=oH hHK
   have HB:=oH hB0
   clear hB0 hHK
   replace HAN:=oH (HAN.below HB.out)
   replace HAD:=oH (HAD.below HB.out)
   refine (HG1.out _ W HAN.out).mono ?_
   rintro e w1 ⟨rfl,hb⟩
   replace HK:=oH (HK.below hb)
   replace HAN:=oH (HAN.below hb)
   replace HAD:=oH (HAD.below hb)
   replace HB:=oH (HB.trans (hb.mono HB.size))
   clear hb
   have k0:=HK.at_ (i:=0) rfl
   have k1:=HK.at_ (i:=1) rfl
   have k2:=HK.at_ (i:=2) rfl
   have k3:=HK.at_ (i:=3) rfl
   go_wp2_with fail
   refine (HG2.out _ w1 HAD.out).mono ?_
   rintro e w2 ⟨rfl,hb⟩
   replace HK:=oH (HK.below hb)
   replace HAN:=oH (HAN.below hb)
   replace HAD:=oH (HAD.below hb)
   replace HB:=oH (HB.trans (hb.mono HB.size))
   clear hb k0 k1 k2 k3
   have k0:=HK.at_ (i:=0) rfl
   have k1:=HK.at_ (i:=1) rfl
   have k2:=HK.at_ (i:=2) rfl
   have k3:=HK.at_ (i:=3) rfl
   go_wp2_with fail
   go_ret2
   exact ⟨by rw [E1.out,E2.out];rfl,HB.out⟩
 ·rw [show outS a.num=⟨#[]⟩ from if_neg h1,show outE a.num=3 from if_neg h1] at HG1
  have E1:=oH (zUo (q:=a) (fun h=>h1 h.1))
  have E2:=oH (zUm (q:=a) (fun h=>h1 h.1))
  generalize outS (a.den:Int)=s2 at *
  generalize outE (a.den:Int)=e2 at *
  clear h1
  go_enter Tryz.func49,Tryz.ntmps49
  go_wp2_with fail
  have hHK:=(Blk.new w 73 [.bool na,.slice A l c,.bool nb,.slice A' l' c'])
  have hB0:Below w.heap.size w (w.alloc (.cells #[.bool na,.slice A l c,.bool nb,.slice A' l' c'] 73)):=bA
  generalize w.alloc (.cells #[.bool na,.slice A l c,.bool nb,.slice A' l' c'] 73)=W at *
  have HK:=oH hHK
  have HB:=oH hB0
  clear hB0 hHK
  replace HAN:=oH (HAN.below HB.out)
  replace HAD:=oH (HAD.below HB.out)
  refine (HG1.out _ W HAN.out).mono ?_
  rintro e w1 ⟨rfl,hb⟩
  replace HK:=oH (HK.below hb)
  replace HAN:=oH (HAN.below hb)
  replace HAD:=oH (HAD.below hb)
  replace HB:=oH (HB.trans (hb.mono HB.size))
  clear hb
  have k0:=HK.at_ (i:=0) rfl
  have k1:=HK.at_ (i:=1) rfl
  have k2:=HK.at_ (i:=2) rfl
  have k3:=HK.at_ (i:=3) rfl
  go_wp2_with fail
  refine (HG2.out _ w1 HAD.out).mono ?_
  rintro e w2 ⟨rfl,hb⟩
  replace HK:=oH (HK.below hb)
  replace HAN:=oH (HAN.below hb)
  replace HAD:=oH (HAD.below hb)
  replace HB:=oH (HB.trans (hb.mono HB.size))
  clear hb k0 k1 k2 k3
  have k0:=HK.at_ (i:=0) rfl
  have k1:=HK.at_ (i:=1) rfl
  have k2:=HK.at_ (i:=2) rfl
  have k3:=HK.at_ (i:=3) rfl
  go_wp2_with fail
  go_ret2
  exact ⟨by rw [E1.out,E2.out];rfl,HB.out⟩
end Go.Proofs.YtfjjcoggoomlbaaGreatDoor
