import Derived.Test.YtbjaplppalcmgaaGreatDoorZMB
set_option maxHeartbeats 16000000
set_option maxRecDepth 100000
set_option linter.unusedVariables false
set_option linter.unusedSimpArgs false
set_option linter.unusedSectionVars false
namespace Go.Proofs.YtbjaplppalcmgaaGreatDoor
open Go.RowKit
theorem zYt {W:World} {p1 p2 p3 p4:Addr} {a b c d:Value} (h:W.cell? p1=some a/\W.cell? p2=some b/\W.cell? p3=some c/\W.cell? p4=some d) (o:Obj) :
  (W.alloc o).cell? p1=some a/\(W.alloc o).cell? p2=some b/\(W.alloc o).cell? p3=some c/\(W.alloc o).cell? p4=some d:=by
 have hb:Below W.heap.size W (W.alloc o):=bRx.alloc lRx o;obtain ⟨h1,h2,h3,h4⟩:=h;exact ⟨kP hb h1,kP hb h2,kP hb h3,kP hb h4⟩
theorem xDn {a b:Value} {x:Bool} (ha:a = .bool x) (hb:∀ z,b ≠ .int .u64 z):∀ y∈([a,b]:List Value),∀ z,y ≠ .int .u64 z:=by
 intro y hy z
 simp at hy
 rcases hy with rfl|rfl
 ·rw [ha];intro e;cases e
 exact hb z
theorem zTj {x:Bool} {A:oAx} {l c:Nat}:∀ y∈([.bool x,.slice A l c]:List Value),∀ z,y ≠ .int .u64 z:=xDn rfl (fun z e=>by cases e)
structure Kp (B:Nat) (w W:World):Prop where
 bel:Below B w W
 blk:∀ k,k<w.heap.size->W.heap[k]? = w.heap[k]? \/ Blk w k 62 [.bool false,.slice none 0 0]
theorem Kp.refl (B:Nat) (w:World):Kp B w w:=⟨bRx,fun _ _ => .inl rfl⟩
theorem Kp.alloc {B:Nat} {w W:World} (h:Kp B w W) (hB:B<=w.heap.size) (o:Obj):Kp B w (W.alloc o) :=
 ⟨h.bel.alloc (Nat.le_trans hB h.bel.size) o,fun k hk=>by rw [Below.heap_alloc W o k (Nat.lt_of_lt_of_le hk h.bel.size)];exact h.blk k hk⟩
theorem Kp.drew {B:Nat} {w W:World} (h:Kp B w W):Kp B w W.drew:=⟨h.bel.drew,h.blk⟩
theorem Kp.set {B:Nat} {w W:World} (h:Kp B w W) {g:Nat} (hB:B<=g) (hg:w.heap.size<=g\/Blk w g 62 [.bool false,.slice none 0 0]) (j:Nat) (u:Value):Kp B w (W.setCell ⟨g,j,none⟩ u) :=
 ⟨h.bel.setCell (p:=⟨g,j,none⟩) hB u,fun k hk=>by
  by_cases e:k=g
  ·subst e
   rcases hg with h1|h1
   ·omega
   exact .inr h1
  rw [Below.heap_setCell W ⟨g,j,none⟩ u k e]
  exact h.blk k hk⟩
theorem Kp.cells {B:Nat} {w W:World} (h:Kp B w W) {A:oAx} {xs:List Nat} (hc:zAe .u64 w A xs):zAe .u64 W A xs:=fun hne=>by
 obtain ⟨b,off,rfl,hb,hcell⟩:=hc hne;have hs:=h.bel.size;refine ⟨b,off,rfl,oMx,fun i hi=>?_⟩;have h0:=hcell i hi
 rcases h.blk b hb with h1|h1
 ·exact (World.cell?_of_block (w:=w) (a:=⟨b,off+i,none⟩) h1).trans h0
 rw [h1.cell] at h0;exact (zTj _ (List.mem_of_getElem? h0) _ rfl).elim
theorem Kp.num {B:Nat} {w W:World} (h:Kp B w W) {v:Value} {z:Int} (hv:zBs w v z):zBs W v z:=by
 obtain ⟨s,e,A,c,e2,hl,hx⟩:=hv;exact ⟨s,e,A,c,e2,hl,h.cells hx⟩
theorem lcm_rel {w w2 W:World} {a h1 h2:Nat} {x2:Bool} {X2:oAx} {y2 z2:Nat} {q:Int} {cs1 cs2:List Value} (KP:Kp (w.heap.size+3) w2 W) (c0:W.cell? ⟨a,0,none⟩=some (.bool x2)) (c1:W.cell? ⟨a,1,none⟩=some (.slice X2 y2 z2)) (hn:zBs w2 (.agg #[.bool x2,.slice X2 y2 z2]) q)
  (k1:Blk w2 h1 62 cs1) (l1:h1<w.heap.size+3) (k2:Blk w2 h2 62 cs2) (l2:h2<w.heap.size+3) (hB:Below w.heap.size w w2) :
  ∃ (g:Nat) (nb:Bool) (S:oAx) (l c:Nat),(Value.pointer (some ⟨a,0,none⟩)) = .pointer (some ⟨g,0,none⟩)/\W.cell? ⟨g,0,none⟩=some (.bool nb)/\W.cell? ⟨g,1,none⟩=some (.slice S l c)/\zBs W (.agg #[.bool nb,.slice S l c]) q/\Blk W h1 62 cs1/\Blk W h2 62 cs2/\Below w.heap.size w W :=
 ⟨a,x2,X2,y2,z2,rfl,c0,c1,KP.num hn,k1.under KP.bel l1,k2.under KP.bel l2,hB.trans (KP.bel.mono oMx)⟩
theorem zAv (u:Value) (q:Rat) (w:World) (ha:zBo w u q):Calls Tryz.prog 72 #[u] w (zFw w (q.den:Int)):=by
 obtain ⟨na,nb,A,A',l,c,l',c',rfl,h1,h2⟩:=ha;have H:=oH h2;clear h1 h2
 go_enter Tryz.func72,Tryz.ntmps72
 go_wp2_with fail;refine bodyPost_ret (v := .agg #[.bool nb,.slice A' l' c']) (by simp [results,Tryz.results72,go_sem]) rfl ?_;have hb:Below w.heap.size w ((w.alloc (.cells #[.bool na,.slice A l c,.bool nb,.slice A' l' c'] 73)).alloc (.cells #[.bool nb,.slice A' l' c'] 62)):=(bA).alloc sMx _;exact ⟨_,rfl,H.below hb,hb⟩
theorem FNum_any (u:Value) (q:Rat) (w:World) (ha:zBo w u q):Calls Tryz.prog 74 #[u] w (zFw w q.num):=by
 obtain ⟨na,nb,A,A',l,c,l',c',rfl,h1,h2⟩:=ha;have H:=oH h1;clear h1 h2
 go_enter Tryz.func74,Tryz.ntmps74
 go_wp2_with fail;refine bodyPost_ret (v := .agg #[.bool na,.slice A l c]) (by simp [results,Tryz.results74,go_sem]) rfl ?_;have hb:Below w.heap.size w ((w.alloc (.cells #[.bool na,.slice A l c,.bool nb,.slice A' l' c'] 73)).alloc (.cells #[.bool na,.slice A l c] 62)):=(bA).alloc sMx _;exact ⟨_,rfl,H.below hb,hb⟩
theorem Lcm_any (u v:Value) (x y:Int) (w:World) (hx:zBs w u x) (hy:zBs w v y) (hlx:LL x<=1000000) (hly:LL y<=1000000) (hx0:x≠0):Calls Tryz.prog 71 #[u,v] w (zFw w (zPk x y)):=by
 obtain ⟨n1,A1,l1,c1,rfl⟩:=hx.slice;obtain ⟨n2,A2,l2,c2,rfl⟩:=hy.slice;have HX:=oH hx;have HY:=oH hy;clear hx hy
 go_enter Tryz.func71,Tryz.ntmps71
 go_wp2_with fail;have ha:=((Blk.new w 62 [.bool n1,.slice A1 l1 c1]).alloc (.cells #[.bool n2,.slice A2 l2 c2] 62)).alloc (.cells #[.bool false,.slice none 0 0] 62);have hb:=(Blk.new (w.alloc (.cells #[.bool n1,.slice A1 l1 c1] 62)) 62 [.bool n2,.slice A2 l2 c2]).alloc (.cells #[.bool false,.slice none 0 0] 62);have hr:=Blk.new' (w:=(w.alloc (.cells #[.bool n1,.slice A1 l1 c1] 62)).alloc (.cells #[.bool n2,.slice A2 l2 c2] 62)) (g:=w.heap.size+1+1) sMx 62 [.bool false,.slice none 0 0];have hbel:Below w.heap.size w (((w.alloc (.cells #[.bool n1,.slice A1 l1 c1] 62)).alloc (.cells #[.bool n2,.slice A2 l2 c2] 62)).alloc (.cells #[.bool false,.slice none 0 0] 62)):=((bA).alloc sMx _).alloc (by simp;omega) _;rw [World.size_alloc] at hb;generalize ((w.alloc (.cells #[.bool n1,.slice A1 l1 c1] 62)).alloc (.cells #[.bool n2,.slice A2 l2 c2] 62)).alloc (.cells #[.bool false,.slice none 0 0] 62)=W at *
 have HA:=oH ha;have HBB:=oH hb;have HR:=oH hr;have HB:=oH hbel;have P0:=oH (show C2 W w.heap.size (.bool n1) (.slice A1 l1 c1)/\C2 W (w.heap.size+1) (.bool n2) (.slice A2 l2 c2) from ⟨ha.c2,hb.c2⟩);have q1:=ha.lt;have q2:=hb.lt;have k0:=ha.at_ (i:=0) rfl;have k1:=ha.at_ (i:=1) rfl;have k2:=hb.at_ (i:=0) rfl;have k3:=hb.at_ (i:=1) rfl;clear ha hb hr hbel
 have hg0:((Nat.gcd x.natAbs y.natAbs:Nat):Int)≠0:=by
  have:=Nat.gcd_pos_of_pos_left y.natAbs (show 0<x.natAbs by omega);omega
 have hgl:(limbs ((Nat.gcd x.natAbs y.natAbs:Nat):Int).natAbs).length<=10000000:=by
  rw [Int.natAbs_natCast];exact Nat.le_trans (zQd (Nat.le_of_dvd oMx (Nat.gcd_dvd_left x.natAbs y.natAbs))) (by unfold LL at hlx;omega)
 have EG:zPk x y=x/((Nat.gcd x.natAbs y.natAbs:Nat):Int)*y:=rfl;have hql:LL (x/((Nat.gcd x.natAbs y.natAbs:Nat):Int))<=1000000:=Nat.le_trans (zBx _ _) hlx;unfold LL at hlx hly hql;have HXW:=oH (HX.below HB.out);have HYW:=oH (HY.below HB.out);obtain ⟨gg,hgg⟩:∃ gg:Int,gg=((Nat.gcd x.natAbs y.natAbs:Nat):Int):=⟨_,rfl⟩;have HGG:=oH hgg;rw [<-hgg] at hg0 hgl EG hql;have HG0:=oH hg0;have HBW:=oH (show w.heap.size+1+1<W.heap.size from HR.lt);clear hgg hg0;go_upto_region 1 with (fail)
 go_cut [5] (fun v wc=>∃ (g:Nat) (nb:Bool) (S:oAx) (l c:Nat),v = .pointer (some ⟨g,0,none⟩)/\wc.cell? ⟨g,0,none⟩=some (.bool nb)/\wc.cell? ⟨g,1,none⟩=some (.slice S l c)/\zBs wc (.agg #[.bool nb,.slice S l c]) (x/gg)/\Blk wc (w.heap.size+1) 62 [.bool n2,.slice A2 l2 c2]/\Blk wc (w.heap.size+1+1) 62 [.bool false,.slice none 0 0]/\Below w.heap.size w wc)
 case first =>
  have KS0:Hid (W.drew.cell? ⟨w.heap.size,0,none⟩=some (.bool n1)/\W.drew.cell? ⟨w.heap.size,1,none⟩=some (.slice A1 l1 c1)/\W.drew.cell? ⟨w.heap.size+1,0,none⟩=some (.bool n2)/\W.drew.cell? ⟨w.heap.size+1,1,none⟩=some (.slice A2 l2 c2)):=oH ⟨k0,k1,k2,k3⟩
  have nx00:¬(w.heap.size=W.heap.size):=oMx;have nx01:¬(W.heap.size=w.heap.size):=oMx;have nx02:¬(w.heap.size=W.heap.size+1):=oMx;have nx03:¬(W.heap.size+1=w.heap.size):=oMx;have nx04:¬(w.heap.size+1=W.heap.size):=oMx;have nx05:¬(W.heap.size=w.heap.size+1):=oMx;have nx06:¬(w.heap.size+1=W.heap.size+1):=oMx;have nx07:¬(W.heap.size+1=w.heap.size+1):=oMx;have nx08:¬(w.heap.size=W.heap.size):=oMx;have nx09:¬(W.heap.size=w.heap.size):=oMx;skip
  have ng0:=World.new_ne W ⟨w.heap.size,0,none⟩ k0;have ng1:=World.new_ne W ⟨w.heap.size+1,0,none⟩ k2
  go_region_held3 (fun w'=>w'.cell? ⟨w.heap.size,0,none⟩=some (.bool n1)/\w'.cell? ⟨w.heap.size,1,none⟩=some (.slice A1 l1 c1)/\w'.cell? ⟨w.heap.size+1,0,none⟩=some (.bool n2)/\w'.cell? ⟨w.heap.size+1,1,none⟩=some (.slice A2 l2 c2)) (first|with_reducible exact KS0.out|with_reducible exact KS1.out|with_reducible exact KS2.out|(with_reducible refine zYt ?_ _;assumption)|go_keep) (first|(go_at_call 77;(with_reducible refine (zBg _ _ x y _ (HXW.out.below (by first|exact bRx|exact bRx.drew|exact bA|exact (bA).alloc sMx _|exact bA.drew|exact ((bA).alloc sMx _).drew)) (HYW.out.below (by first|exact bRx|exact bRx.drew|exact bA|exact (bA).alloc sMx _|exact bA.drew|exact ((bA).alloc sMx _).drew)) oMx oMx).mono ?_);rintro e w1 ⟨v1,rfl,hv,hb⟩;have HV1:=oH hv;have hbw:Below W.heap.size W w1:=Below.trans (by first|exact bRx|exact bRx.drew|exact bA|exact (bA).alloc sMx _|exact bA.drew|exact ((bA).alloc sMx _).drew) (hb.mono leH);have HX1:=oH (HXW.out.below hbw);have HA1:=oH (HA.out.below hbw);have HBB1:=oH (HBB.out.below hbw);have HR1:=oH (HR.out.below hbw);have HB1:=bTx2 HB hbw;(first|(have za1:=((Blk.new W 62 [.bool false,.slice none 0 0]).alloc (.cells #[.bool false,.slice none 0 0] 62)).below (Below.trans bRd (hb.mono leH));have zb1:=(Blk.new' (w:=W.alloc (.cells #[.bool false,.slice none 0 0] 62)) (g:=W.heap.size+1) sMx 62 [.bool false,.slice none 0 0]).below (Below.trans bRd (hb.mono leH));have za10:=za1.at_ (i:=0) rfl;have za11:=za1.at_ (i:=1) rfl;have zb10:=zb1.at_ (i:=0) rfl;have zb11:=zb1.at_ (i:=1) rfl;have ya10:=za1.fr 0;have ya11:=za1.fr 1;have yb10:=zb1.fr 0;have yb11:=zb1.fr 1;have sa1:=za1.lt;have sb1:=zb1.lt;have ZA1:=oH za1;have ZB1:=oH zb1;clear za1 zb1)|(have za1:=(Blk.new W 62 [.bool false,.slice none 0 0]).below (Below.trans bRd (hb.mono leH));have za10:=za1.at_ (i:=0) rfl;have za11:=za1.at_ (i:=1) rfl;have ya10:=za1.fr 0;have ya11:=za1.fr 1;have sa1:=za1.lt;have ZA1:=oH za1;clear za1)|skip);obtain ⟨x1,X1,y1,z1,rfl⟩:=hv.slice;have k10:=HA1.out.at_ (i:=0) rfl;have k11:=HA1.out.at_ (i:=1) rfl;have k12:=HBB1.out.at_ (i:=0) rfl;have k13:=HBB1.out.at_ (i:=1) rfl;have P1:=oH (show C2 w1 w.heap.size (.bool n1) (.slice A1 l1 c1)/\C2 w1 (w.heap.size+1) (.bool n2) (.slice A2 l2 c2) from ⟨HA1.out.c2,HBB1.out.c2⟩);have n10:=World.new_ne w1 ⟨w.heap.size,0,none⟩ k10;have n11:=World.new_ne w1 ⟨w.heap.size+1,0,none⟩ k12;have q11:=HA1.out.lt;have q12:=HBB1.out.lt;have nx10:¬(w.heap.size=w1.heap.size):=oMx;have nx11:¬(w1.heap.size=w.heap.size):=oMx;have nx12:¬(w.heap.size=w1.heap.size+1):=oMx;have nx13:¬(w1.heap.size+1=w.heap.size):=oMx;have nx14:¬(w.heap.size+1=w1.heap.size):=oMx;have nx15:¬(w1.heap.size=w.heap.size+1):=oMx;have nx16:¬(w.heap.size+1=w1.heap.size+1):=oMx;have nx17:¬(w1.heap.size+1=w.heap.size+1):=oMx;have nx18:¬(w.heap.size=w1.heap.size):=oMx;have nx19:¬(w1.heap.size=w.heap.size):=oMx;have KS1:Hid (w1.cell? ⟨w.heap.size,0,none⟩=some (.bool n1)/\w1.cell? ⟨w.heap.size,1,none⟩=some (.slice A1 l1 c1)/\w1.cell? ⟨w.heap.size+1,0,none⟩=some (.bool n2)/\w1.cell? ⟨w.heap.size+1,1,none⟩=some (.slice A2 l2 c2)):=oH ⟨k10,k11,k12,k13⟩;clear hv hb hbw)|(go_at_call 73;(with_reducible refine (zAp _ _ x gg _ (HX1.out.below (by first|exact bRx|exact bRx.drew|exact bA|exact (bA).alloc sMx _|exact bA.drew|exact ((bA).alloc sMx _).drew)) (by rw [HGG.out];exact HV1.out.below (by first|exact bRx|exact bRx.drew|exact bA|exact (bA).alloc sMx _|exact bA.drew|exact ((bA).alloc sMx _).drew)) oMx oMx HG0.out).mono ?_);rintro e w2 ⟨v2,u2,rfl,hq,hr,hb⟩;have HQ2:=oH hq;have hbw:Below w1.heap.size w1 w2:=Below.trans (by first|exact bRx|exact bRx.drew|exact bA|exact (bA).alloc sMx _|exact bA.drew|exact ((bA).alloc sMx _).drew) (hb.mono leH);have HA2:=oH (HA1.out.below hbw);have HBB2:=oH (HBB1.out.below hbw);have P2:=oH (show C2 w2 w.heap.size (.bool n1) (.slice A1 l1 c1)/\C2 w2 (w.heap.size+1) (.bool n2) (.slice A2 l2 c2) from ⟨HA2.out.c2,HBB2.out.c2⟩);have HR2:=oH (HR1.out.below hbw);have HB2:=bTx2 HB1 hbw;have k20:=HA2.out.at_ (i:=0) rfl;have k21:=HA2.out.at_ (i:=1) rfl;have k22:=HBB2.out.at_ (i:=0) rfl;have k23:=HBB2.out.at_ (i:=1) rfl;have n20:=World.new_ne w2 ⟨w.heap.size,0,none⟩ k20;have n21:=World.new_ne w2 ⟨w.heap.size+1,0,none⟩ k22;have q21:=HA2.out.lt;have q22:=HBB2.out.lt;(first|(have ZA1':=oH (ZA1.out.below hbw);have zc0:=ZA1'.out.at_ (i:=0) rfl;have zc1:=ZA1'.out.at_ (i:=1) rfl;have yc0:=ZA1'.out.fr 0;have yc1:=ZA1'.out.fr 1;have sc:=ZA1'.out.lt)|skip);(first|(have ZB1':=oH (ZB1.out.below hbw);have zd0:=ZB1'.out.at_ (i:=0) rfl;have zd1:=ZB1'.out.at_ (i:=1) rfl;have yd0:=ZB1'.out.fr 0;have yd1:=ZB1'.out.fr 1;have sd:=ZB1'.out.lt)|skip);(first|(have za2:=((Blk.new w1 62 [.bool false,.slice none 0 0]).alloc (.cells #[.bool false,.slice none 0 0] 62)).below (Below.trans bRd (hb.mono leH));have zb2:=(Blk.new' (w:=w1.alloc (.cells #[.bool false,.slice none 0 0] 62)) (g:=w1.heap.size+1) sMx 62 [.bool false,.slice none 0 0]).below (Below.trans bRd (hb.mono leH));have za20:=za2.at_ (i:=0) rfl;have za21:=za2.at_ (i:=1) rfl;have zb20:=zb2.at_ (i:=0) rfl;have zb21:=zb2.at_ (i:=1) rfl;have ya20:=za2.fr 0;have ya21:=za2.fr 1;have yb20:=zb2.fr 0;have yb21:=zb2.fr 1;have sa2:=za2.lt;have sb2:=zb2.lt;have ZA2:=oH za2;have ZB2:=oH zb2;clear za2 zb2)|(have za2:=(Blk.new w1 62 [.bool false,.slice none 0 0]).below (Below.trans bRd (hb.mono leH));have za20:=za2.at_ (i:=0) rfl;have za21:=za2.at_ (i:=1) rfl;have ya20:=za2.fr 0;have ya21:=za2.fr 1;have sa2:=za2.lt;have ZA2:=oH za2;clear za2)|skip);obtain ⟨x2,X2,y2,z2,rfl⟩:=hq.slice;obtain ⟨x3,X3,y3,z3,rfl⟩:=hr.slice;have nx20:¬(w.heap.size=w2.heap.size):=oMx;have nx21:¬(w2.heap.size=w.heap.size):=oMx;have nx22:¬(w.heap.size=w2.heap.size+1):=oMx;have nx23:¬(w2.heap.size+1=w.heap.size):=oMx;have nx24:¬(w.heap.size+1=w2.heap.size):=oMx;have nx25:¬(w2.heap.size=w.heap.size+1):=oMx;have nx26:¬(w.heap.size+1=w2.heap.size+1):=oMx;have nx27:¬(w2.heap.size+1=w.heap.size+1):=oMx;have nx28:¬(w.heap.size=w2.heap.size):=oMx;have nx29:¬(w2.heap.size=w.heap.size):=oMx;have KS2:Hid (w2.cell? ⟨w.heap.size,0,none⟩=some (.bool n1)/\w2.cell? ⟨w.heap.size,1,none⟩=some (.slice A1 l1 c1)/\w2.cell? ⟨w.heap.size+1,0,none⟩=some (.bool n2)/\w2.cell? ⟨w.heap.size+1,1,none⟩=some (.slice A2 l2 c2)):=oH ⟨k20,k21,k22,k23⟩;clear hq hr hb hbw))
  all_goals go_wp2_with fail
  all_goals go_meet
  all_goals
   have hz1:=HBW.out;have hz2:=HR2.lt;have hz3:=HR1.lt;refine lcm_rel (w2:=w2) ?_ ?_ ?_ HQ2.out HBB2.out oMx HR2.out oMx HB2.out
   ·repeat' first
     | with_reducible exact Kp.refl _ _
     | (with_reducible refine Kp.set ?_ oMx (by first|exact .inl oMx|with_reducible exact .inr ZA1'.out|with_reducible exact .inr ZB1'.out|with_reducible exact .inr ZA2.out|with_reducible exact .inr ZB2.out) _ _)
     | (with_reducible refine Kp.alloc ?_ oMx _)
     | (with_reducible refine Kp.drew ?_)
   ·go_simp
   go_simp
 case rest =>
  obtain ⟨g,nb,S,l,c,rfl,m0,m1,hq,h2,h3,hbel⟩:=hcut;have HQ:=oH hq;have H3:=oH h3;have HBL:=oH hbel;have HYc:=oH (HY.below hbel);have m2:=h2.at_ (i:=0) rfl;have m3:=h2.at_ (i:=1) rfl;clear h2 h3 hq hbel;go_wp2_with fail;refine (zCl _ _ (x/gg) y _ HQ.out HYc.out oMx oMx).mono ?_;rintro e w3 ⟨v3,rfl,hv,hb⟩;have HV:=oH hv;have hr:=H3.below hb;have HR3:=oH hr;have r0:=hr.at_ (i:=0) rfl;have r1:=hr.at_ (i:=1) rfl;have f0:=hr.fr 0;have f1:=hr.fr 1;have HB3:=bTx2 HBL hb;obtain ⟨xa,Xa,ya,za,rfl⟩:=hv.slice;clear hv hb hr;go_wp2_with fail;refine bodyPost_ret (v := .agg #[.bool xa,.slice Xa ya za]) (by simp [results,Tryz.results71,go_sem,r0,r1]) rfl ?_;rw [EG];exact ⟨_,rfl,(HV.box HR3.out (xDn rfl (fun z e=>by cases e)) (zOc _ 0 _)).box (HR3.set 0 _) (xDn rfl (fun z e=>by cases e)) (zOc _ 1 _),(HB3.setCell (p:=⟨_,0,none⟩) (by simp;omega) _).setCell (p:=⟨_,1,none⟩) (by simp;omega) _⟩
end Go.Proofs.YtbjaplppalcmgaaGreatDoor
