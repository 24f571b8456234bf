import Derived.Deep.DrawnRows
import Derived.Test.YtbjaplppalcmgaaGreatDoorZF
set_option maxHeartbeats 16000000
set_option maxRecDepth 100000
namespace Go.Proofs.YtbjaplppalcmgaaGreatDoor
open Go.RowKit
theorem zAe.box {k:IntKind} {w W':World} {A:oAx} {xs:List Nat} {g:Nat} {t:TypeId} {cs:List Value} (h:zAe k w A xs) (hg:Blk w g t cs) (hcs:∀ x∈cs,∀ z,x ≠ .int k z) (hW:w.grownBy W' (some g)):zAe k W' A xs:=by
 by_cases hne:xs=[]
 ·subst hne;exact zAe.nil _ _ _
 refine h.only hW ?_
 intro b off e
 obtain ⟨b2,o2,e2,hlt,hc⟩:=h hne
 rw [e] at e2;injection e2 with e2;injection e2 with e2 e3
 subst e2 e3;rintro rfl;have h1:=hc 0 (by rcases xs with _|⟨x,xs⟩;exact absurd rfl hne;simp);rw [Nat.add_zero,hg.cell] at h1;exact hcs _ (List.mem_of_getElem? h1) _ rfl
theorem zOc {w:World} (g i:Nat) (u:Value):w.grownBy (w.setCell ⟨g,i,none⟩ u) (some g):=zTx (p:=⟨g,i,none⟩) (World.grownBy.refl w (some g)) (.inl rfl) u
theorem zOd {a w:World} {g:Nat} (h:a.grownBy w (some g)) (i:Nat) (u:Value):a.grownBy (w.setCell ⟨g,i,none⟩ u) (some g):=zTx (p:=⟨g,i,none⟩) h (.inl rfl) u
theorem zBr.box {w W':World} {v:Value} {n g:Nat} {t:TypeId} {cs:List Value} (h:zBr w v n) (hg:Blk w g t cs) (hcs:∀ x∈cs,∀ z,x ≠ .int .u64 z) (hW:w.grownBy W' (some g)):zBr W' v n:=by
 obtain ⟨A,c,e,hl,hc⟩:=h;exact ⟨A,c,e,hl,hc.box hg hcs hW⟩
theorem zBs.box {w W':World} {v:Value} {z:Int} {g:Nat} {t:TypeId} {cs:List Value} (h:zBs w v z) (hg:Blk w g t cs) (hcs:∀ x∈cs,∀ z,x ≠ .int .u64 z) (hW:w.grownBy W' (some g)):zBs W' v z:=by
 obtain ⟨s,e,hs⟩:=h;exact ⟨s,e,hs.box hg hcs hW⟩
theorem zBs.slice {w:World} {v:Value} {z:Int} (h:zBs w v z):∃ (nb:Bool) (A:oAx) (l c:Nat),v = .agg #[.bool nb,.slice A l c]:=by
 obtain ⟨_,rfl,A,c,rfl,_,_⟩:=h;exact ⟨_,A,_,c,rfl⟩
theorem zBs.drew {w:World} {v:Value} {z:Int} (h:zBs w v z):zBs w.drew v z:=h
def zBo (w:World) (v:Value) (q:Rat):Prop:=∃ (na nb:Bool) (A A':oAx) (l c l' c':Nat),v = .agg #[.bool na,.slice A l c,.bool nb,.slice A' l' c']/\zBs w (.agg #[.bool na,.slice A l c]) q.num/\zBs w (.agg #[.bool nb,.slice A' l' c']) (q.den:Int)
theorem zBo.below {w w':World} {v:Value} {q:Rat} (h:zBo w v q) (hb:Below w.heap.size w w'):zBo w' v q:=by
 obtain ⟨na,nb,A,A',l,c,l',c',e,h1,h2⟩:=h;exact ⟨na,nb,A,A',l,c,l',c',e,h1.below hb,h2.below hb⟩
theorem zBo.box {w W':World} {v:Value} {q:Rat} {g:Nat} {t:TypeId} {cs:List Value} (h:zBo w v q) (hg:Blk w g t cs) (hcs:∀ x∈cs,∀ z,x ≠ .int .u64 z) (hW:w.grownBy W' (some g)):zBo W' v q:=by
 obtain ⟨na,nb,A,A',l,c,l',c',e,h1,h2⟩:=h;exact ⟨na,nb,A,A',l,c,l',c',e,h1.box hg hcs hW,h2.box hg hcs hW⟩
theorem zBo.mk {w:World} {na nb:Bool} {A A':oAx} {l c l' c':Nat} {n d:Int} {q:Rat} (h1:zBs w (.agg #[.bool na,.slice A l c]) n) (h2:zBs w (.agg #[.bool nb,.slice A' l' c']) d) (e1:n=q.num) (e2:d=(q.den:Int)):zBo w (.agg #[.bool na,.slice A l c,.bool nb,.slice A' l' c']) q:=by
 subst e1 e2;exact ⟨na,nb,A,A',l,c,l',c',rfl,h1,h2⟩
def zFp (w:World) (q:Rat) (e:Ending) (w':World):Prop:=∃ v,e = .returned v/\zBo w' v q/\Below w.heap.size w w'
theorem no_int2 {nb:Bool} {A:oAx} {l c:Nat}:∀ x∈([.bool nb,.slice A l c]:List Value),∀ z,x ≠ .int .u64 z:=by intro x hx z e;subst e;simp at hx
theorem zSk {na nb:Bool} {A A':oAx} {l c l' c':Nat}:∀ x∈([.bool na,.slice A l c,.bool nb,.slice A' l' c']:List Value),∀ z,x ≠ .int .u64 z:=by intro x hx z e;subst e;simp at hx
theorem zNl {w W:World} {g:Nat} {na nb:Bool} {A A':oAx} {l c l' c':Nat} {q p:Rat} {cs:List Value} {t:TypeId} (h:Blk W g t cs) (hcs:∀ x∈cs,∀ z,x ≠ .int .u64 z) (hb:Below w.heap.size w W) (hg:w.heap.size<=g) (hq:zBo W (.agg #[.bool na,.slice A l c,.bool nb,.slice A' l' c']) q) (e:q=p) :
  zFp w p (.returned (.agg #[.bool na,.slice A l c,.bool nb,.slice A' l' c'])) ((((W.setCell ⟨g,0,none⟩ (.bool na)).setCell ⟨g,1,none⟩ (.slice A l c)).setCell ⟨g,2,none⟩ (.bool nb)).setCell ⟨g,3,none⟩ (.slice A' l' c')):=by
 subst e;exact ⟨_,rfl,hq.box h hcs (zOd (zOd (zOd (zOc g 0 _) 1 _) 2 _) 3 _),(((hb.setCell (p:=⟨g,0,none⟩) hg _).setCell (p:=⟨g,1,none⟩) hg _).setCell (p:=⟨g,2,none⟩) hg _).setCell (p:=⟨g,3,none⟩) hg _⟩
theorem Blk.four_far {W:World} {g h:Nat} {t:TypeId} {cs:List Value} (k:Blk W g t cs) (hne:g≠h) (x0 x1 x2 x3:Value):Blk ((((W.setCell ⟨h,0,none⟩ x0).setCell ⟨h,1,none⟩ x1).setCell ⟨h,2,none⟩ x2).setCell ⟨h,3,none⟩ x3) g t cs :=
 (((k.far (p:=⟨h,0,none⟩) hne x0).far (p:=⟨h,1,none⟩) hne x1).far (p:=⟨h,2,none⟩) hne x2).far (p:=⟨h,3,none⟩) hne x3
theorem Blk.two_far {W:World} {g h:Nat} {t:TypeId} {cs:List Value} (k:Blk W g t cs) (hne:g≠h) (x0 x1:Value):Blk ((W.setCell ⟨h,0,none⟩ x0).setCell ⟨h,1,none⟩ x1) g t cs :=
 (k.far (p:=⟨h,0,none⟩) hne x0).far (p:=⟨h,1,none⟩) hne x1
abbrev C2 (W:World) (g:Nat) (x0 x1:Value):Prop:=W.cell? ⟨g,0,none⟩=some x0/\W.cell? ⟨g,1,none⟩=some x1
abbrev C4 (W:World) (g:Nat) (x0 x1 x2 x3:Value):Prop:=W.cell? ⟨g,0,none⟩=some x0/\W.cell? ⟨g,1,none⟩=some x1/\W.cell? ⟨g,2,none⟩=some x2/\W.cell? ⟨g,3,none⟩=some x3
abbrev C44 (W:World) (g h:Nat) (x0 x1 x2 x3 y0 y1 y2 y3:Value):Prop:=(W.cell? ⟨g,0,none⟩=some x0/\W.cell? ⟨g,1,none⟩=some x1/\W.cell? ⟨g,2,none⟩=some x2/\W.cell? ⟨g,3,none⟩=some x3)/\W.cell? ⟨h,0,none⟩=some y0/\W.cell? ⟨h,1,none⟩=some y1/\W.cell? ⟨h,2,none⟩=some y2/\W.cell? ⟨h,3,none⟩=some y3
section
variable {W:World} {g h:Nat} {t t':TypeId} {x0 x1 x2 x3 y0 y1 y2 y3:Value}
theorem Blk.c2 (k:Blk W g t [x0,x1]):C2 W g x0 x1:=⟨k.at_ rfl,k.at_ rfl⟩
theorem Blk.c4 (k:Blk W g t [x0,x1,x2,x3]):C4 W g x0 x1 x2 x3:=⟨k.at_ rfl,k.at_ rfl,k.at_ rfl,k.at_ rfl⟩
theorem Blk.c44 (k:Blk W g t [x0,x1,x2,x3]) (l:Blk W h t' [y0,y1,y2,y3]):C44 W g h x0 x1 x2 x3 y0 y1 y2 y3:=⟨k.c4,l.c4⟩
theorem Blk.c2_4 {r:Nat} (k:Blk W g t [x0,x1]) (hne:g≠r) (z0 z1 z2 z3:Value):C2 ((((W.setCell ⟨r,0,none⟩ z0).setCell ⟨r,1,none⟩ z1).setCell ⟨r,2,none⟩ z2).setCell ⟨r,3,none⟩ z3) g x0 x1:=(k.four_far hne z0 z1 z2 z3).c2
theorem Blk.c44_4 {r:Nat} (k:Blk W g t [x0,x1,x2,x3]) (l:Blk W h t' [y0,y1,y2,y3]) (hne:g≠r) (hne':h≠r) (z0 z1 z2 z3:Value):C44 ((((W.setCell ⟨r,0,none⟩ z0).setCell ⟨r,1,none⟩ z1).setCell ⟨r,2,none⟩ z2).setCell ⟨r,3,none⟩ z3) g h x0 x1 x2 x3 y0 y1 y2 y3:=⟨(k.four_far hne z0 z1 z2 z3).c4,(l.four_far hne' z0 z1 z2 z3).c4⟩
end
end Go.Proofs.YtbjaplppalcmgaaGreatDoor
namespace Go.Proofs.YtbjaplppalcmgaaGreatDoor
open Go.RowKit
theorem zTr {n:Nat} (hn:n<9223372036854775808):xDa [n%1000000000,n/1000000000%1000000000,n/1000000000/1000000000]=limbs n:=by
 have hlow:Low [n%1000000000,n/1000000000%1000000000,n/1000000000/1000000000]:=Low.cons oMx (Low.cons oMx (Low.cons oMx Low.nil));rw [<-zQm hlow]
 congr 1
 simp only [xEb,xEi];omega
theorem zTq {w:World} {g n:Nat} (h:Blk w g 126 [.int .u64 ((n:Int)%1000000000),.int .u64 ((n:Int)/1000000000%1000000000),.int .u64 ((n:Int)/1000000000/1000000000)]) :
  zAe .u64 w (some ⟨g,0,none⟩) [n%1000000000,n/1000000000%1000000000,n/1000000000/1000000000]:=fun _=>⟨g,0,rfl,h.lt,fun i hi=>by
 rw [Nat.zero_add,h.cell]
 match i,hi with
 | 0,_=>rfl
 | 1,_=>rfl
 | 2,_=>rfl⟩
theorem zCa (n:Nat) (w:World) (hn:n<9223372036854775808):Calls Tryz.prog 47 #[.int .i64 (n:Int)] w (zFw w (n:Int)):=by
 have HTR:Hid (∀ W:World,Blk W (w.heap.size+1) 126 [.int .u64 ((n:Int)%1000000000),.int .u64 ((n:Int)/1000000000%1000000000),.int .u64 ((n:Int)/1000000000/1000000000)]->Calls Tryz.prog 91 #[.slice (some ⟨w.heap.size+1,0,none⟩) 3 3] W fun e w'=>e = .returned (.slice (some ⟨w.heap.size+1,0,none⟩) (limbs n).length 3)/\W=w'):=fun W hW=>by
  have:=xDh (some ⟨w.heap.size+1,0,none⟩) [n%1000000000,n/1000000000%1000000000,n/1000000000/1000000000] 3 W (zTq hW) sMx sMx;rw [zTr hn] at this;exact this
 have HCE:Hid (∀ W:World,Blk W (w.heap.size+1) 126 [.int .u64 ((n:Int)%1000000000),.int .u64 ((n:Int)/1000000000%1000000000),.int .u64 ((n:Int)/1000000000/1000000000)]->zBr W (.slice (some ⟨w.heap.size+1,0,none⟩) (limbs n).length 3) n):=fun W hW=>by
  have h1:=(zTq hW).take (limbs n).length;have h2:=xDe [n%1000000000,n/1000000000%1000000000,n/1000000000/1000000000];have h3:=xDb [n%1000000000,n/1000000000%1000000000,n/1000000000/1000000000];rw [zTr hn] at h2 h3;rw [<-h2] at h1;exact zBr.mk h3 h1
 have hl3:(limbs n).length<=3:=zQb oMx;have hd:decide ((n:Int)<0)=false:=decide_eq_false oMx
 go_enter Tryz.func47,Tryz.ntmps47
 go_wp2_with fail;have hk:=Blk.new (w.alloc (.cells #[.bool false,.slice none 0 0] 62)) 126 [.int .u64 ((n:Int)%1000000000),.int .u64 ((n:Int)/1000000000%1000000000),.int .u64 ((n:Int)/1000000000/1000000000)];have hr:=(Blk.new w 62 [.bool false,.slice none 0 0]).alloc (.cells #[.int .u64 ((n:Int)%1000000000),.int .u64 ((n:Int)/1000000000%1000000000),.int .u64 ((n:Int)/1000000000/1000000000)] 126);have hb:Below w.heap.size w ((w.alloc (.cells #[.bool false,.slice none 0 0] 62)).alloc (.cells #[.int .u64 ((n:Int)%1000000000),.int .u64 ((n:Int)/1000000000%1000000000),.int .u64 ((n:Int)/1000000000/1000000000)] 126)):=(bA).alloc sMx _;rw [World.size_alloc] at hk;generalize (w.alloc (.cells #[.bool false,.slice none 0 0] 62)).alloc (.cells #[.int .u64 ((n:Int)%1000000000),.int .u64 ((n:Int)/1000000000%1000000000),.int .u64 ((n:Int)/1000000000/1000000000)] 126)=W at *;have HK:=oH hk;have HR:=oH hr
 have HB:=oH hb;clear hk hr hb;refine (HTR.out W HK.out).mono ?_;rintro e w1 ⟨rfl,rfl⟩;go_wp2_with fail;refine (zTb false _ n W (HCE.out W HK.out) oMx).mono ?_
 intro e w2 hret
 obtain ⟨A3,c3,rfl,hl3',hc3,hb3⟩:=hret.num;have HC3:=oH hc3;have HR3:=oH (HR.below hb3);have HB3:=bTx2 HB hb3;have hr0:w2.cell? ⟨w.heap.size,0,none⟩=some (.bool false):=HR3.at_ rfl;have hr1:w2.cell? ⟨w.heap.size,1,none⟩=some (.slice none 0 0):=HR3.at_ rfl;have hf0:=HR3.fr 0;have hf1:=HR3.fr 1;clear hret hc3 hb3 HTR HCE hd;go_wp2_with fail;refine bodyPost_ret (v := .agg #[.bool (decide (sgn false n<0)),.slice A3 (limbs (sgn false n).natAbs).length c3]) (by simp [results,Tryz.results47,go_sem,hr0,hr1]) rfl ?_;exact Res.end_ ⟨HR3.out⟩ HB3.out lRx HC3.out hl3' rfl
theorem zPn:(limbs (1:Int).natAbs).length<=100:=Nat.le_trans (zQk (n:=1) dCx) dCx
theorem zCb (w:World):Calls Tryz.prog 47 #[.int .i64 1] w (zFw w 1):=zCa 1 w dCx
def xFr (q:Rat):Bool:=decide (q.den=1)
theorem whole_sg (q:Rat):(sg ((q.den:Int)-1)==0)=xFr q:=by
 have:=q.den_pos;unfold xFr sg
 by_cases h:q.den=1
 ·simp [h]
 rw [if_neg oMx,if_pos oMx]
 simp [h]
theorem xFs (u:Value) (q:Rat) (w:World) (hq:zBo w u q) (hs:(limbs q.den).length<=10000000) :
  Calls Tryz.prog 121 #[u] w fun e w'=>e = .returned (.bool (xFr q))/\Below w.heap.size w w':=by
 obtain ⟨na,nb,A,A',l,c,l',c',rfl,h1,h2⟩:=hq;have H2:=oH h2;have E:=oH (whole_sg q)
 have hsg : -1<=sg ((q.den:Int)-1)/\sg ((q.den:Int)-1)<=1:=by unfold sg;(repeat' split)<;>omega
 obtain ⟨hsg1,hsg2⟩:=hsg;clear h1 h2
 go_enter Tryz.func121,Tryz.ntmps121
 go_wp2_with fail;have hk:=Blk.new w 73 [.bool na,.slice A l c,.bool nb,.slice A' l' c'];have hb:Below w.heap.size w (w.alloc (.cells #[.bool na,.slice A l c,.bool nb,.slice A' l' c'] 73)):=bA;generalize w.alloc (.cells #[.bool na,.slice A l c,.bool nb,.slice A' l' c'] 73)=W at *;have HK:=oH hk;have HB:=oH hb;have c2:W.cell? ⟨w.heap.size,2,none⟩=some (.bool nb):=hk.at_ rfl;have c3:W.cell? ⟨w.heap.size,3,none⟩=some (.slice A' l' c'):=hk.at_ rfl;clear hk hb
 go_region_held3 (fun w'=>w'.cell? ⟨w.heap.size,2,none⟩=some (.bool nb)/\w'.cell? ⟨w.heap.size,3,none⟩=some (.slice A' l' c'))
  (first|exact ⟨HK3.at_ rfl,HK3.at_ rfl⟩|exact ⟨HK2.at_ rfl,HK2.at_ rfl⟩|exact ⟨HK.at_ rfl,HK.at_ rfl⟩|go_keep)
  (first|(go_at_call 47;refine (zCb _).mono ?_;rintro e w2 ⟨v2,rfl,hv2,hb2⟩;have HK2:=oH (HK.drew.below hb2);have HV2:=oH hv2;have HD2:=oH ((H2.below HB.out).drew.below hb2);have HB2:=oH (HB.drew.trans (hb2.mono HB.size));obtain ⟨n2,A2,l2,c2',rfl⟩:=hv2.slice;clear hv2 hb2)|(go_at_call 78;refine (zAg _ _ _ _ _ HD2.out HV2.out (by rw [Int.natAbs_natCast];omega) (Nat.le_trans zPn dCx)).mono ?_;rintro e w3 ⟨rfl,hb3⟩;have HK3:=oH (HK2.below hb3);have HB3:=bTx2 HB2 hb3;clear hb3))
 go_wp2_with fail;go_ret
 exact ⟨by rw [<-E.out];rfl,HB3.out⟩
theorem zAz (u:Value) (n:Int) (w:World) (hn:zBs w u n):Calls Tryz.prog 96 #[u] w (zFp w (n:Rat)):=by
 have HN:=oH hn;obtain ⟨na,A,l,c,rfl⟩:=hn.slice;clear hn
 go_enter Tryz.func96,Tryz.ntmps96
 go_wp2_with fail;have hk:=(Blk.new w 62 [.bool na,.slice A l c]).alloc (.cells #[.bool false,.slice none 0 0,.bool false,.slice none 0 0] 73);have hr:=Blk.new (w.alloc (.cells #[.bool na,.slice A l c] 62)) 73 [.bool false,.slice none 0 0,.bool false,.slice none 0 0];have hb:Below w.heap.size w ((w.alloc (.cells #[.bool na,.slice A l c] 62)).alloc (.cells #[.bool false,.slice none 0 0,.bool false,.slice none 0 0] 73)):=(bA).alloc sMx _;rw [World.size_alloc] at hr;generalize (w.alloc (.cells #[.bool na,.slice A l c] 62)).alloc (.cells #[.bool false,.slice none 0 0,.bool false,.slice none 0 0] 73)=W at *;have HK:=oH hk;have HR:=oH hr;have HB:=oH hb;have c0:W.cell? ⟨w.heap.size,0,none⟩=some (.bool na):=hk.at_ rfl;have c1:W.cell? ⟨w.heap.size,1,none⟩=some (.slice A l c):=hk.at_ rfl;clear hk hr hb;have P1:=oH HK.drew.c2
 go_region_held3 (fun w'=>C2 w' w.heap.size (.bool na) (.slice A l c))
  (first|with_reducible exact P1.out|with_reducible exact P2.out|with_reducible exact Q2.out _ _ _ _|go_keep)
  (first|(go_at_call 47;refine (zCb _).mono ?_;rintro e w2 ⟨v2,rfl,hv2,hb2⟩;have HK2:=oH (HK.drew.below hb2);have P2:=oH HK2.c2;have Q2:=oH (fun z0 z1 z2 z3=>HK2.c2_4 (r:=w.heap.size+1) (Nat.ne_of_lt (Nat.lt_succ_self _)) z0 z1 z2 z3);have HR2:=oH (HR.drew.below hb2);have HV2:=oH hv2;have HN2:=oH ((HN.below HB.out).drew.below hb2);have HB2:=oH (HB.drew.trans (hb2.mono HB.size));have r0:=HR2.at_ (i:=0) rfl;have r1:=HR2.at_ (i:=1) rfl;have r2:=HR2.at_ (i:=2) rfl;have r3:=HR2.at_ (i:=3) rfl;have f0:=HR2.fr 0;have f1:=HR2.fr 1;have f2:=HR2.fr 2;have f3:=HR2.fr 3;obtain ⟨n2,A2,l2,c2',rfl⟩:=hv2.slice;clear hv2 hb2))
 go_wp2_with fail;refine bodyPost_ret (v := .agg #[.bool na,.slice A l c,.bool n2,.slice A2 l2 c2']) (by simp [results,Tryz.results96,go_sem, *]) rfl ?_;exact zNl HR2.out zSk HB2.out (Nat.le_succ _) (zBo.mk HN2.out HV2.out (q:=(n:Rat)) sMx sMx) rfl
end Go.Proofs.YtbjaplppalcmgaaGreatDoor
namespace Go.Proofs.YtbjaplppalcmgaaGreatDoor
open Go.RowKit
def NewS (w:World) (n d:Int) (W:World):Prop:=∃ (na nb:Bool) (A A':oAx) (l c l' c':Nat),Blk W w.heap.size 62 [.bool na,.slice A l c]/\Blk W (w.heap.size+1) 62 [.bool nb,.slice A' l' c']/\Blk W (w.heap.size+1+1) 73 [.bool false,.slice none 0 0,.bool false,.slice none 0 0] /\
 zBs W (.agg #[.bool na,.slice A l c]) n/\zBs W (.agg #[.bool nb,.slice A' l' c']) d/\Below w.heap.size w W
theorem zBs.set2 {W:World} {v:Value} {z:Int} {g:Nat} {t:TypeId} {nb:Bool} {A:oAx} {l c:Nat} (h:zBs W v z) (k:Blk W g t [.bool nb,.slice A l c]) (x y:Value):zBs ((W.setCell ⟨g,0,none⟩ x).setCell ⟨g,1,none⟩ y) v z:=h.box k no_int2 (zOd (zOc g 0 _) 1 _)
theorem Blk.set2 {W:World} {g:Nat} {t:TypeId} {x0 x1:Value} (k:Blk W g t [x0,x1]) (x y:Value):Blk ((W.setCell ⟨g,0,none⟩ x).setCell ⟨g,1,none⟩ y) g t [x,y]:=(k.set 0 x).set 1 y
theorem zIm {W w:World} {g:Nat} (h:Below w.heap.size w W) (hg:w.heap.size<=g) (x y:Value):Below w.heap.size w ((W.setCell ⟨g,0,none⟩ x).setCell ⟨g,1,none⟩ y):=(h.setCell (p:=⟨g,0,none⟩) hg x).setCell (p:=⟨g,1,none⟩) hg y
theorem NewS.store {w W:World} {na nb na' nb':Bool} {A A' B B':oAx} {l c l' c' m e m' e':Nat} {n d:Int} (k0:Blk W w.heap.size 62 [.bool na,.slice A l c]) (k1:Blk W (w.heap.size+1) 62 [.bool nb,.slice A' l' c']) (k2:Blk W (w.heap.size+1+1) 73 [.bool false,.slice none 0 0,.bool false,.slice none 0 0])
  (hn:zBs W (.agg #[.bool na',.slice B m e]) n) (hd:zBs W (.agg #[.bool nb',.slice B' m' e']) d) (hb:Below w.heap.size w W) :
  NewS w n d ((((W.setCell ⟨w.heap.size,0,none⟩ (.bool na')).setCell ⟨w.heap.size,1,none⟩ (.slice B m e)).setCell ⟨w.heap.size+1,0,none⟩ (.bool nb')).setCell ⟨w.heap.size+1,1,none⟩ (.slice B' m' e')):=by
 have h1:Blk ((W.setCell ⟨w.heap.size,0,none⟩ (.bool na')).setCell ⟨w.heap.size,1,none⟩ (.slice B m e)) (w.heap.size+1) 62 [.bool nb,.slice A' l' c']:=k1.two_far oMx _ _;have h2:Blk ((W.setCell ⟨w.heap.size,0,none⟩ (.bool na')).setCell ⟨w.heap.size,1,none⟩ (.slice B m e)) (w.heap.size+1+1) 73 [.bool false,.slice none 0 0,.bool false,.slice none 0 0]:=k2.two_far oMx _ _;exact ⟨na',nb',B,B',m,e,m',e',(k0.set2 _ _).two_far oMx _ _,h1.set2 _ _,h2.two_far oMx _ _,(hn.set2 k0 _ _).set2 h1 _ _,(hd.set2 k0 _ _).set2 h1 _ _,zIm (zIm hb lRx _ _) (Nat.le_succ _) _ _⟩
theorem NewS.store' {w W:World} {na nb na' nb':Bool} {A A' B B':oAx} {l c l' c' m e m' e':Nat} {n d:Int} (k0:Blk W w.heap.size 62 [.bool na,.slice A l c]) (k1:Blk W (w.heap.size+1) 62 [.bool nb,.slice A' l' c']) (k2:Blk W (w.heap.size+1+1) 73 [.bool false,.slice none 0 0,.bool false,.slice none 0 0])
  (hn:zBs W (.agg #[.bool na',.slice B m e]) n) (hd:zBs W (.agg #[.bool nb',.slice B' m' e']) d) (hb:Below w.heap.size w W) :
  NewS w n d ((((W.setCell ⟨w.heap.size+1,0,none⟩ (.bool nb')).setCell ⟨w.heap.size+1,1,none⟩ (.slice B' m' e')).setCell ⟨w.heap.size,0,none⟩ (.bool na')).setCell ⟨w.heap.size,1,none⟩ (.slice B m e)):=by
 have h1:Blk ((W.setCell ⟨w.heap.size+1,0,none⟩ (.bool nb')).setCell ⟨w.heap.size+1,1,none⟩ (.slice B' m' e')) w.heap.size 62 [.bool na,.slice A l c]:=k0.two_far oMx _ _;have h2:Blk ((W.setCell ⟨w.heap.size+1,0,none⟩ (.bool nb')).setCell ⟨w.heap.size+1,1,none⟩ (.slice B' m' e')) (w.heap.size+1+1) 73 [.bool false,.slice none 0 0,.bool false,.slice none 0 0]:=k2.two_far oMx _ _;exact ⟨na',nb',B,B',m,e,m',e',h1.set2 _ _,(k1.set2 _ _).two_far oMx _ _,h2.two_far oMx _ _,(hn.set2 k1 _ _).set2 h1 _ _,(hd.set2 k1 _ _).set2 h1 _ _,zIm (zIm hb (Nat.le_succ _) _ _) lRx _ _⟩
attribute [local go_sem ↓] Go.wp_at_zero Go.wp_at_succ
theorem zCp (u v:Value) (n d:Int) (w:World) (hn:zBs w u n) (hd:zBs w v d) (hln:(limbs n.natAbs).length<=10000000) (hld:(limbs d.natAbs).length<=10000000) (hd0:d≠0) :
  Calls Tryz.prog 36 #[u,v] w (zFp w (Rat.divInt n d)):=by
 obtain ⟨n1,d1,hc,hd1,he,hln1,hld1⟩:∃ n1 d1:Int,((d<0/\n1 = -n/\d1 = -d)\/(0<d/\n1=n/\d1=d))/\0<d1/\Rat.divInt n1 d1=Rat.divInt n d/\(limbs n1.natAbs).length<=10000000/\(limbs d1.natAbs).length<=10000000:=by
  by_cases h:d<0
  ·exact ⟨-n, -d,.inl ⟨h,rfl,rfl⟩,oMx,zVv n d,by rwa [Int.natAbs_neg],by rwa [Int.natAbs_neg]⟩
  exact ⟨n,d,.inr ⟨oMx,rfl,rfl⟩,oMx,rfl,hln,hld⟩
 have HQ:=oH (zVw (n:=n1) hd1);have hgp:0<n1.natAbs.gcd d1.natAbs:=Nat.gcd_pos_of_pos_right _ oMx
 have hgl:(limbs (((n1.natAbs.gcd d1.natAbs:Nat):Int)).natAbs).length<=10000000:=by
  rw [Int.natAbs_natCast];exact Nat.le_trans (zQd (Nat.gcd_le_right _ oMx)) hld1
 rw [he] at HQ;have HN:=oH hn;have HD:=oH hd;have HC:=oH hc;obtain ⟨na,A,l,c,rfl⟩:=hn.slice;obtain ⟨nb,A',l',c',rfl⟩:=hd.slice;clear hn hd hc he
 go_enter Tryz.func36,Tryz.ntmps36
 go_wp2_with fail;have hk0:=((Blk.new w 62 [.bool na,.slice A l c]).alloc (.cells #[.bool nb,.slice A' l' c'] 62)).alloc (.cells #[.bool false,.slice none 0 0,.bool false,.slice none 0 0] 73);have hk1:=(Blk.new (w.alloc (.cells #[.bool na,.slice A l c] 62)) 62 [.bool nb,.slice A' l' c']).alloc (.cells #[.bool false,.slice none 0 0,.bool false,.slice none 0 0] 73);have hk2:=Blk.new ((w.alloc (.cells #[.bool na,.slice A l c] 62)).alloc (.cells #[.bool nb,.slice A' l' c'] 62)) 73 [.bool false,.slice none 0 0,.bool false,.slice none 0 0];have hb:Below w.heap.size w (((w.alloc (.cells #[.bool na,.slice A l c] 62)).alloc (.cells #[.bool nb,.slice A' l' c'] 62)).alloc (.cells #[.bool false,.slice none 0 0,.bool false,.slice none 0 0] 73)):=((bA).alloc sMx _).alloc (by simp;omega) _;rw [World.size_alloc] at hk1 hk2;rw [World.size_alloc] at hk2;generalize ((w.alloc (.cells #[.bool na,.slice A l c] 62)).alloc (.cells #[.bool nb,.slice A' l' c'] 62)).alloc (.cells #[.bool false,.slice none 0 0,.bool false,.slice none 0 0] 73)=W at *
 refine (zGm _ d W (HD.below hb) oMx).mono ?_;rintro e w1 ⟨rfl,hb1⟩;have HK0:=oH (hk0.below hb1);have HK1:=oH (hk1.below hb1);have HK2:=oH (hk2.below hb1);have HB:=bTx2 hb hb1;replace HN:=oH (HN.below HB.out);replace HD:=oH (HD.below HB.out);clear hk0 hk1 hk2 hb hb1;have c00:=HK0.at_ (i:=0) rfl;have c01:=HK0.at_ (i:=1) rfl;have c10:=HK1.at_ (i:=0) rfl;have c11:=HK1.at_ (i:=1) rfl;have f00:=HK0.fr 0;have f01:=HK0.fr 1;have f10:=HK1.fr 0;have f11:=HK1.fr 1
 go_upto_if 8 with (fail)
 go_cut [] (fun wc=>NewS w n1 d1 wc)
 case first =>
  rcases HC.out with ⟨h,e1,e2⟩|⟨h,e1,e2⟩
  ·have hs:sg d = -1:=by simp [sg,h]
   rw [hs];have HND:=oH (⟨e1,e2⟩:n1 = -n/\d1 = -d);clear e1 e2 hs HC HQ;go_wp2_with fail
   go_region_with (first|(go_at_call 52;(with_reducible refine (zCo _ d _ HD2.out oMx).mono ?_);rintro e w3 ⟨v3,rfl,hv3,hb3⟩;have HV3:=oH hv3;have HV23:=oH (HV2.out.below hb3);have HK03:=oH (HK02.out.below hb3);have HK13:=oH (HK12.out.below hb3);have HK23:=oH (HK22.out.below hb3);have HB3:=bTx2 HB2 hb3;have e00:=HK03.out.at_ (i:=0) rfl;have e01:=HK03.out.at_ (i:=1) rfl;have e10:=HK13.out.at_ (i:=0) rfl;have e11:=HK13.out.at_ (i:=1) rfl;have g00:=HK03.out.fr 0;have g01:=HK03.out.fr 1;have g10:=HK13.out.fr 0;have g11:=HK13.out.fr 1;obtain ⟨n3,A3,l3,c3,rfl⟩:=hv3.slice;clear hv3 hb3)|(go_at_call 52;refine (zCo _ n _ HN.out.drew oMx).mono ?_;rintro e w2 ⟨v2,rfl,hv2,hb2⟩;have HV2:=oH hv2;have HK02:=oH (HK0.out.drew.below hb2);have HK12:=oH (HK1.out.drew.below hb2);have HK22:=oH (HK2.out.drew.below hb2);have HD2:=oH (HD.out.drew.below hb2);have HB2:=oH (HB.out.drew.trans (hb2.mono HB.out.size));have d00:=HK02.out.at_ (i:=0) rfl;have d01:=HK02.out.at_ (i:=1) rfl;have d10:=HK12.out.at_ (i:=0) rfl;have d11:=HK12.out.at_ (i:=1) rfl;obtain ⟨n2,A2,l2,c2,rfl⟩:=hv2.slice;clear hv2 hb2))
   all_goals
    go_wp2_with fail
    go_meet
    rw [HND.1,HND.2]
    first|exact NewS.store HK03.out HK13.out HK23.out HV23.out HV3.out HB3.out|exact NewS.store' HK03.out HK13.out HK23.out HV23.out HV3.out HB3.out
  have hs:¬sg d<0:=by simp [sg];omega
  have HND:=oH (⟨e1,e2⟩:n1=n/\d1=d);clear e1 e2 HC HQ;go_wp2_with fail
  go_meet
  rw [HND.1,HND.2];exact ⟨na,nb,A,A',l,c,l',c',HK0.out,HK1.out,HK2.out,HN.out,HD.out,HB.out⟩
 case rest =>
  clear HK0 HK1 HK2 HB HN HD HC c00 c01 c10 c11 f00 f01 f10 f11;generalize (Value.agg #[.bool na,.slice A l c])=t0;generalize (Value.agg #[.bool nb,.slice A' l' c'])=t1;clear na nb A A' l c l' c';obtain ⟨na,nb,A,A',l,c,l',c',hk0,hk1,hk2,hn,hd,hb⟩:=hcut;have HK0:=oH hk0;have HK1:=oH hk1;have HK2:=oH hk2;have HN:=oH hn;have HD:=oH hd;have HB:=oH hb;have c00:=HK0.at_ (i:=0) rfl;have c01:=HK0.at_ (i:=1) rfl;have c10:=HK1.at_ (i:=0) rfl;have c11:=HK1.at_ (i:=1) rfl;have HGC:=oH (zBg _ _ n1 d1 wc hn hd oMx oMx);have hsr:w.heap.size+1+1<wc.heap.size:=hk2.lt;obtain ⟨G,hG⟩:∃ G:Int,((n1.natAbs.gcd d1.natAbs:Nat):Int)=G:=⟨_,rfl⟩
  have hG0:0<G:=by omega
  rw [hG] at HQ HGC hgl;clear hk0 hk1 hk2 hn hd hb hG hgp;go_wp2_with fail;refine HGC.mono ?_;rintro e w2 ⟨v2,rfl,hv2,hb2⟩;obtain ⟨ng,B,m,cg,rfl⟩:=hv2.slice;have hb3:Below w2.heap.size w2 (w2.alloc (.cells #[.bool ng,.slice B m cg] 62)):=bA;have hkg:=Blk.new w2 62 [.bool ng,.slice B m cg];have HG:=oH (hv2.below hb3);replace HK0:=oH ((HK0.below hb2).below hb3);replace HK1:=oH ((HK1.below hb2).below hb3);replace HK2:=oH ((HK2.below hb2).below hb3);replace HN:=oH ((HN.below hb2).below hb3);replace HD:=oH ((HD.below hb2).below hb3);replace HB:=bTx2 HB hb2;replace HB:=bTx2 HB hb3;have hsr2:w.heap.size+1+1<w2.heap.size:=Nat.lt_of_lt_of_le hsr hb2.size;clear hv2 hb2 c00 c01 c10 c11 HGC hsr;go_upto_region 4 with (fail);generalize w2.alloc (.cells #[.bool ng,.slice B m cg] 62)=W3 at *;obtain ⟨gb,hgb⟩:=eXx (w2.heap.size);rw [hgb] at hkg hsr2 ⊢;have HKG:=oH hkg;have cg0:=hkg.at_ (i:=0) rfl;have cg1:=hkg.at_ (i:=1) rfl
  have P1:=oH hkg.drew.c2;clear hkg hb3 hgb
  go_region_held3 (fun w'=>C2 w' gb (.bool ng) (.slice B m cg)) (first|with_reducible exact P1.out|with_reducible exact P4.out|with_reducible exact P5.out|go_keep) (first|(go_at_call 78;refine (zAg _ _ _ _ _ HG4.out HV4.out oMx (Nat.le_trans zPn dCx)).mono ?_;rintro e w5 ⟨rfl,hb5⟩;have HK05:=oH (HK04.out.below hb5);have HK15:=oH (HK14.out.below hb5);have HK25:=oH (HK24.out.below hb5);have HKG5:=oH (HKG4.out.below hb5);have HN5:=oH (HN4.out.below hb5);have HD5:=oH (HD4.out.below hb5);have HG5:=oH (HG4.out.below hb5);have HB5:=bTx2 HB4 hb5;have P5:=oH HKG5.out.c2;clear hb5)|(go_at_call 47;refine (zCb _).mono ?_;rintro e w4 ⟨v4,rfl,hv4,hb4⟩;have HV4:=oH hv4;have HK04:=oH (HK0.out.drew.below hb4);have HK14:=oH (HK1.out.drew.below hb4);have HK24:=oH (HK2.out.drew.below hb4);have HKG4:=oH (HKG.out.drew.below hb4);have HN4:=oH (HN.out.drew.below hb4);have HD4:=oH (HD.out.drew.below hb4);have HG4:=oH (HG.out.drew.below hb4);have HB4:=oH (HB.out.drew.trans (hb4.mono HB.out.size));have P4:=oH HKG4.out.c2;obtain ⟨n4,A4,l4,c4,rfl⟩:=hv4.slice;clear hv4 hb4))
  clear P1 P4 P5 HK0 HK1 HK2 HKG HN HD HG HB HK04 HK14 HK24 HKG4 HN4 HD4 HG4 HB4 HV4 cg0 cg1;have d00:=HK05.at_ (i:=0) rfl;have d01:=HK05.at_ (i:=1) rfl;have d10:=HK15.at_ (i:=0) rfl;have d11:=HK15.at_ (i:=1) rfl;have dg0:=HKG5.at_ (i:=0) rfl;have dg1:=HKG5.at_ (i:=1) rfl;have p00:=HK05.fr 0;have p01:=HK05.fr 1;have p10:=HK15.fr 0;have p11:=HK15.fr 1
  go_upto_if 19 with (fail)
  go_cut [] (fun wc=>NewS w (n1/G) (d1/G) wc)
  case first =>
   by_cases hg1:G=1
   ·have hs:(sg (G-1) != 0)=false:=by rw [hg1];rfl
    have hs':(sg (G-1)==0)=true:=by rw [hg1];rfl
    have HND:Hid (n1/G=n1/\d1/G=d1):=by rw [hg1];exact ⟨Int.ediv_one _,Int.ediv_one _⟩
    clear hg1;go_wp2_with fail
    go_meet
    rw [HND.1,HND.2];exact ⟨na,nb,A,A',l,c,l',c',HK05.out,HK15.out,HK25.out,HN5.out,HD5.out,HB5.out⟩
   have hse:sg (G-1)=1:=by unfold sg;rw [if_neg oMx,if_pos oMx]
   have hs:(sg (G-1) != 0)=true:=by rw [hse];rfl
   have hs':(sg (G-1)==0)=false:=by rw [hse];rfl
   clear hse;go_wp2_with fail;refine (zAp _ _ n1 G w5 HN5.out HG5.out oMx oMx oMx).mono ?_;rintro e w6 ⟨v6,u6',rfl,hv6,hu6,hb6⟩;obtain ⟨n6,A6,l6,c6,rfl⟩:=hv6.slice;obtain ⟨n7,A7,l7,c7,rfl⟩:=hu6.slice;have hk0:=HK05.below hb6;have hk1:=(HK15.below hb6).two_far (h:=w.heap.size) oMx (.bool n6) (.slice A6 l6 c6);have hk2:=(HK25.below hb6).two_far (h:=w.heap.size) oMx (.bool n6) (.slice A6 l6 c6);have hkg:=(HKG5.below hb6).two_far (h:=w.heap.size) oMx (.bool n6) (.slice A6 l6 c6);have hn6:=hv6.set2 hk0 (.bool n6) (.slice A6 l6 c6);have hd6:=(HD5.below hb6).set2 hk0 (.bool n6) (.slice A6 l6 c6);have hg6:=(HG5.below hb6).set2 hk0 (.bool n6) (.slice A6 l6 c6);have hb7:=zIm (HB5.trans (hb6.mono HB5.size)) lRx (.bool n6) (.slice A6 l6 c6);have q00:=hk0.at_ (i:=0) rfl;have q01:=hk0.at_ (i:=1) rfl;have r00:=hk0.fr 0;have r01:=hk0.fr 1;have hk0':=hk0.set2 (.bool n6) (.slice A6 l6 c6);have HH0:=oH hk0'
   have HH1:=oH hk1;have HH2:=oH hk2;have HHG:=oH hkg;have HN6:=oH hn6;have HD6:=oH hd6;have HG6:=oH hg6;have HB6:=oH hb7;clear hk0 hk1 hk2 hkg hn6 hd6 hg6 hb7 hv6 hu6 hb6 hk0' d00 d01 d10 d11 dg0 dg1 p00 p01 p10 p11 HK05 HK15 HK25 HKG5 HN5 HD5 HG5 HB5 hs hs';go_upto_region 6 with (fail);generalize (w6.setCell ⟨w.heap.size,0,none⟩ (.bool n6)).setCell ⟨w.heap.size,1,none⟩ (.slice A6 l6 c6)=W6 at *;clear q00 q01 r00 r01;have q10:=HH1.at_ (i:=0) rfl;have q11:=HH1.at_ (i:=1) rfl;have qg0:=HHG.at_ (i:=0) rfl;have qg1:=HHG.at_ (i:=1) rfl;go_wp2_with fail;refine (zAp _ _ d1 G W6 HD6.out HG6.out oMx oMx oMx).mono ?_;rintro e w8 ⟨v8,u8',rfl,hv8,hu8,hb8⟩;obtain ⟨n8,A8,l8,c8,rfl⟩:=hv8.slice;obtain ⟨n9,A9,l9,c9,rfl⟩:=hu8.slice;have HJ0:=oH (HH0.below hb8);have HJ1:=oH (HH1.below hb8);have HJ2:=oH (HH2.below hb8);have HN8:=oH (HN6.below hb8);have HD8:=oH hv8;have HB8:=bTx2 HB6 hb8;have s10:=HJ1.at_ (i:=0) rfl
   have s11:=HJ1.at_ (i:=1) rfl;have t10:=HJ1.fr 0;have t11:=HJ1.fr 1;clear q10 q11 qg0 qg1 hv8 hu8 hb8;go_wp2_with fail
   go_meet
   exact ⟨n6,n8,A6,A8,l6,c6,l8,c8,HJ0.two_far oMx _ _,HJ1.set2 _ _,HJ2.two_far oMx _ _,HN8.set2 HJ1.out _ _,HD8.set2 HJ1.out _ _,zIm HB8.out (Nat.le_succ _) _ _⟩
  case rest =>
   generalize (Value.agg #[.bool ng,.slice B m cg])=t15;clear HK05 HK15 HK25 HKG5 HN5 HD5 HG5 HB5 d00 d01 d10 d11 dg0 dg1 p00 p01 p10 p11;obtain ⟨na',nb',D,D',l1,c1,l1',c1',hk0,hk1,hk2,hn,hd,hb⟩:=hcut;have HK2:=oH hk2;have HN:=oH hn;have HD:=oH hd;have HB:=oH hb;have c00:=hk0.at_ (i:=0) rfl;have c01:=hk0.at_ (i:=1) rfl;have c10:=hk1.at_ (i:=0) rfl;have c11:=hk1.at_ (i:=1) rfl;have c20:=hk2.at_ (i:=0) rfl;have c21:=hk2.at_ (i:=1) rfl;have c22:=hk2.at_ (i:=2) rfl;have c23:=hk2.at_ (i:=3) rfl;have f20:=hk2.fr 0;have f21:=hk2.fr 1;have f22:=hk2.fr 2;have f23:=hk2.fr 3;clear hk0 hk1 hk2 hn hd hb;go_wp2_with fail;refine bodyPost_ret (v := .agg #[.bool na',.slice D l1 c1,.bool nb',.slice D' l1' c1']) (by simp [results,Tryz.results36,go_sem, *]) rfl ?_;exact zNl HK2.out zSk HB.out oMx (zBo.mk HN.out HD.out HQ.1.symm HQ.2.symm) rfl
end Go.Proofs.YtbjaplppalcmgaaGreatDoor
namespace Go.Proofs.YtbjaplppalcmgaaGreatDoor
open Go.RowKit
theorem zBo.open_ {w:World} {v:Value} {q:Rat} (h:zBo w v q):∃ (na nb:Bool) (A A':oAx) (l c l' c':Nat),v = .agg #[.bool na,.slice A l c,.bool nb,.slice A' l' c']/\zBs w (.agg #[.bool na,.slice A l c]) q.num/\zBs w (.agg #[.bool nb,.slice A' l' c']) (q.den:Int):=h
theorem zBo.slice {w:World} {v:Value} {q:Rat} (h:zBo w v q):∃ (na nb:Bool) (A A':oAx) (l c l' c':Nat),v = .agg #[.bool na,.slice A l c,.bool nb,.slice A' l' c']:=by
 obtain ⟨na,nb,A,A',l,c,l',c',e,_,_⟩:=h;exact ⟨na,nb,A,A',l,c,l',c',e⟩
theorem Sz.n {k:Nat} {q:Rat} (h:Sz k q):(limbs q.num.natAbs).length<=k:=h.1
theorem Sz.d {k:Nat} {q:Rat} (h:Sz k q):(limbs ((q.den:Int)).natAbs).length<=k:=by rw [Int.natAbs_natCast];exact h.2
end Go.Proofs.YtbjaplppalcmgaaGreatDoor
