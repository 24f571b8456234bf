import Derived.Test.YtbjaplppalcmgaaGreatDoorZG
set_option maxHeartbeats 16000000
set_option maxRecDepth 100000
namespace Go.Proofs.YtbjaplppalcmgaaGreatDoor
open Go.RowKit
theorem xFu {P:Program} {w:World} {ops:Array Oper} {rest:List Oper} {o:Oper} {a:Act} {Q:Exit->Act->World->Prop} (hgd:o.guard=none) (s x:Operand) (t:TypeId)
  (ho:o.op = .call { callee := .builtin .append,args:=#[s,x],argTypes:=#[t,t] })
  (base:Nat) (e:TypeId) (i:TypeInfo) (ht:P.underlying t=some (.slice e)) (hi:P.info? e=some i) (hz:i.zero=some (.int .i64 0)) (hsize:i.size=1) (hby:i.bytes=8)
  (v:Value) (n:Nat) (ys:List Value) (hs:a.eval s=v) (hown:w.ownsRow base e 1 v n ys) (A:oAx) (xs:List Nat) (c:Nat) (hx:a.eval x = .slice A xs.length c) (hc:zAe .i64 w A xs)
  (h63:n+xs.length<=1000000000) (hbase:base<=w.heap.size)
  (h:∀ v' w',w'.ownsRow base e 1 v' (n+xs.length) (ys++vn xs)->w.grownBy w' v.ownBlock->wpList P ops Q rest (a.put o.dst v') w'):wpList P ops Q (o::rest) a w:=by
 rcases A with _|ad
 ·have hxs:xs=[]:=by
   apply Decidable.byContradiction
   intro hne
   obtain ⟨b,off,e,_⟩:=hc hne
   cases e
  subst hxs
  refine wpList_plain hgd fun K hK=>?_
  have hrun:(Builtin.append_ #[t,t] o.type #[v,.slice none 0 c]).run P w = .ok v w:=by
   rcases hown.2 with ⟨rfl,rfl⟩|⟨g,cap,cur,rfl,_,_,hnc,_⟩
   ·simp [Builtin.append_,run_underlying ht,sizeOf,typeInfo,hi,Builtin.lenOf,Builtin.firstCells]
   simp [Builtin.append_,run_underlying ht,sizeOf,typeInfo,hi,Builtin.lenOf,Builtin.firstCells,hnc,storeCells]
  have hx':a.eval x = .slice none 0 c:=hx;unfold Oper.wp
  simp [execOp,ho,resolve,invoke,builtin,hs,hx',hrun,Result.andThen]
  exact hK _ _ (h v w (by simpa [vn] using hown) (World.grownBy.refl w _))
 refine wpList_append_own w hgd s x t ho base e i (.int .i64 0) 1 8 ht hi hz hsize hby rfl dCx v n ys hs hown ad xs.length c (vn xs) hx (by rw [xFm];omega) ?_ (by intro u hu;simp [vn] at hu;obtain ⟨x,_,rfl⟩:=hu;rfl) (by unfold maxLen;omega) oMx hbase (fun v' w' h1 h2 _=>h v' w' h1 h2)
 intro j u hj
 have hjl:j<xs.length:=by
  rcases Nat.lt_or_ge j xs.length with h|h
  ·exact h
  rw [List.getElem?_eq_none (by rw [xFm];exact h)] at hj;cases hj
 obtain ⟨b,off,e,hb,hcell⟩:=hc (by intro e;subst e;simp at hjl);injection e with e;subst e;rw [xFl hjl] at hj;rw [show (⟨b,off,none⟩:Addr).add j=⟨b,off+j,none⟩ by unfold Addr.add;split<;>simp_all,hcell j hjl,hj]
structure BQ (w W:World) (n0 n1:Bool) (s0 s1:Value):Prop where
 k0:Blk W w.heap.size 85 [.bool n0,s0]
 k1:Blk W (w.heap.size+1) 85 [.bool n1,s1]
 k2:Blk W (w.heap.size+1+1) 85 [.bool false,.slice none 0 0]
 k3:Blk W (w.heap.size+1+1+1) 85 [.bool false,.slice none 0 0]
 bel:Below w.heap.size w W
section
variable {w W W':World} {n0 n1:Bool} {s0 s1:Value}
theorem BQ.new (w:World) (n0 n1:Bool) (s0 s1:Value):BQ w ((((w.alloc (.cells #[.bool n0,s0] 85)).alloc (.cells #[.bool n1,s1] 85)).alloc (.cells #[.bool false,.slice none 0 0] 85)).alloc (.cells #[.bool false,.slice none 0 0] 85)) n0 n1 s0 s1:=by
 have h:=BB.new w n0 n1 s0 s1;have h3:=Blk.new (((w.alloc (.cells #[.bool n0,s0] 85)).alloc (.cells #[.bool n1,s1] 85)).alloc (.cells #[.bool false,.slice none 0 0] 85)) 85 [.bool false,.slice none 0 0];rw [World.size_alloc,World.size_alloc,World.size_alloc] at h3;exact ⟨h.k0.alloc _,h.k1.alloc _,h.k2.alloc _,h3,h.bel.alloc (Nat.le_of_lt h.k0.lt) _⟩
theorem BQ.below (h:BQ w W n0 n1 s0 s1) (hb:Below W.heap.size W W'):BQ w W' n0 n1 s0 s1 :=
 ⟨h.k0.below hb,h.k1.below hb,h.k2.below hb,h.k3.below hb,h.bel.trans (hb.mono (Nat.le_of_lt h.k0.lt))⟩
theorem BQ.drewN (h:BQ w W n0 n1 s0 s1) (n:Nat):BQ w (W.drewN n) n0 n1 s0 s1:=⟨h.k0,h.k1,h.k2,h.k3,below_drewN h.bel n⟩
theorem BQ.drew (h:BQ w W n0 n1 s0 s1):BQ w W.drew n0 n1 s0 s1:=⟨h.k0,h.k1,h.k2,h.k3,h.bel.drew⟩
theorem BQ.far (h:BQ w W n0 n1 s0 s1) {p:Addr} (hp:w.heap.size+3<p.block) (u:Value):BQ w (W.setCell p u) n0 n1 s0 s1 :=
 ⟨h.k0.far oMx u,h.k1.far oMx u,h.k2.far oMx u,h.k3.far oMx u,h.bel.setCell oMx u⟩
theorem BQ.four (h:BQ w W n0 n1 s0 s1):zBe w W n0 n1 s0 s1:=⟨h.k0.at_ rfl,h.k0.at_ rfl,h.k1.at_ rfl,h.k1.at_ rfl⟩
end
structure QW (w wr:World) (na nb:Bool) (s0 s1:Value) (g n:Nat) (qs:List Nat):Prop where
 len:qs.length=n
 low:Low qs
 row:Row .i64 wr g 3 qs
 bq:BQ w wr na nb s0 s1
section
variable {w wr wr':World} {na nb:Bool} {s0 s1:Value} {g n:Nat} {qs:List Nat}
theorem QW.below (h:QW w wr na nb s0 s1 g n qs) (hb:Below wr.heap.size wr wr'):QW w wr' na nb s0 s1 g n qs:=⟨h.len,h.low,h.row.below hb h.row.lt,h.bq.below hb⟩
theorem QW.drewN (h:QW w wr na nb s0 s1 g n qs) (m:Nat):QW w (wr.drewN m) na nb s0 s1 g n qs:=⟨h.len,h.low,h.row,h.bq.drewN m⟩
theorem QW.step (h:QW w wr na nb s0 s1 g n qs) (hg:w.heap.size+3<g) (i:Nat) {x:Nat} (hx:x<1000000000):QW w (wr.setCell ⟨g,i,none⟩ (.int .i64 (x:Int))) na nb s0 s1 g n (qs.set i x) :=
 ⟨by simp [h.len],h.low.set i hx,h.row.set i x,h.bq.far hg _⟩
theorem QW.four (h:QW w wr na nb s0 s1 g n qs):zBe w wr na nb s0 s1:=h.bq.four
end
theorem zAe.other {k:IntKind} {w:World} {A:oAx} {xs:List Nat} {g:Nat} (h:zAe k w A xs) (hg:∀ b off,A=some ⟨b,off,none⟩->b≠g) (i:Nat) (u:Value):zAe k (w.setCell ⟨g,i,none⟩ u) A xs:=by
 intro hne
 obtain ⟨b,off,rfl,hb,hc⟩:=h hne;refine ⟨b,off,rfl,by simpa [World.setCell] using hb,fun j hj=>?_⟩;exact (World.cell?_of_block (w:=w) (Below.heap_setCell w ⟨g,i,none⟩ u b (hg b off rfl))).trans (hc j hj)
theorem zOq {z:Int} (h:0<=z):Value.int .i64 z = .int .i64 (z.toNat:Int):=by rw [Int.toNat_of_nonneg h]
def zFz (w:World) (q r:Int) (e:Ending) (w':World):Prop:=∃ u v,e = .returned (.tuple #[u,v])/\zBm w' u q/\zBm w' v r/\Below w.heap.size w w'
theorem BQ.stored1 {w W:World} {n0 n1:Bool} {s0 s1:Value} (h:BQ w W n0 n1 s0 s1) (x y:Value):zBe w ((W.setCell ⟨w.heap.size+1+1,0,none⟩ x).setCell ⟨w.heap.size+1+1,1,none⟩ y) n0 n1 s0 s1:=by
 have k0:=(h.k0.far (p:=⟨w.heap.size+1+1,0,none⟩) (by show w.heap.size≠w.heap.size+1+1;omega) x).far (p:=⟨w.heap.size+1+1,1,none⟩) (by show w.heap.size≠w.heap.size+1+1;omega) y;have k1:=(h.k1.far (p:=⟨w.heap.size+1+1,0,none⟩) (by show w.heap.size+1≠w.heap.size+1+1;omega) x).far (p:=⟨w.heap.size+1+1,1,none⟩) (by show w.heap.size+1≠w.heap.size+1+1;omega) y;exact ⟨k0.at_ rfl,k0.at_ rfl,k1.at_ rfl,k1.at_ rfl⟩
theorem BQ.stored2 {w W:World} {n0 n1:Bool} {s0 s1:Value} (h:BQ w W n0 n1 s0 s1) (x y x' y':Value):zBe w ((((W.setCell ⟨w.heap.size+1+1,0,none⟩ x).setCell ⟨w.heap.size+1+1,1,none⟩ y).setCell ⟨w.heap.size+1+1+1,0,none⟩ x').setCell ⟨w.heap.size+1+1+1,1,none⟩ y') n0 n1 s0 s1:=by
 have k0:=(((h.k0.far (p:=⟨w.heap.size+1+1,0,none⟩) (by show w.heap.size≠w.heap.size+1+1;omega) x).far (p:=⟨w.heap.size+1+1,1,none⟩) (by show w.heap.size≠w.heap.size+1+1;omega) y).far (p:=⟨w.heap.size+1+1+1,0,none⟩) (by show w.heap.size≠w.heap.size+1+1+1;omega) x').far (p:=⟨w.heap.size+1+1+1,1,none⟩) (by show w.heap.size≠w.heap.size+1+1+1;omega) y';have k1:=(((h.k1.far (p:=⟨w.heap.size+1+1,0,none⟩) (by show w.heap.size+1≠w.heap.size+1+1;omega) x).far (p:=⟨w.heap.size+1+1,1,none⟩) (by show w.heap.size+1≠w.heap.size+1+1;omega) y).far (p:=⟨w.heap.size+1+1+1,0,none⟩) (by show w.heap.size+1≠w.heap.size+1+1+1;omega) x').far (p:=⟨w.heap.size+1+1+1,1,none⟩) (by show w.heap.size+1≠w.heap.size+1+1+1;omega) y';exact ⟨k0.at_ rfl,k0.at_ rfl,k1.at_ rfl,k1.at_ rfl⟩
theorem quo_end {w W:World} {n0 n1:Bool} {s0 s1:Value} {A A':oAx} {c c':Nat} {x y:Int} (h:BQ w W n0 n1 s0 s1) (hc:zAe .i64 W A (limbs x.natAbs)) (hl:(limbs x.natAbs).length<=c) (hc':zAe .i64 W A' (limbs y.natAbs)) (hl':(limbs y.natAbs).length<=c') :
  zFz w x y (.returned (.tuple #[.agg #[.bool (decide (x<0)),.slice A (limbs x.natAbs).length c],.agg #[.bool (decide (y<0)),.slice A' (limbs y.natAbs).length c']]))
   ((((W.setCell ⟨w.heap.size+1+1,0,none⟩ (.bool (decide (x<0)))).setCell ⟨w.heap.size+1+1,1,none⟩ (.slice A (limbs x.natAbs).length c)).setCell ⟨w.heap.size+1+1+1,0,none⟩ (.bool (decide (y<0)))).setCell ⟨w.heap.size+1+1+1,1,none⟩ (.slice A' (limbs y.natAbs).length c')):=by
 have k3:=(h.k3.far (p:=⟨w.heap.size+1+1,0,none⟩) (by show w.heap.size+1+1+1≠w.heap.size+1+1;omega) (.bool (decide (x<0)))).far (p:=⟨w.heap.size+1+1,1,none⟩) (by show w.heap.size+1+1+1≠w.heap.size+1+1;omega) (.slice A (limbs x.natAbs).length c)
 have go:∀ (B:oAx) (xs:List Nat),zAe .i64 W B xs->zAe .i64 ((((W.setCell ⟨w.heap.size+1+1,0,none⟩ (.bool (decide (x<0)))).setCell ⟨w.heap.size+1+1,1,none⟩ (.slice A (limbs x.natAbs).length c)).setCell ⟨w.heap.size+1+1+1,0,none⟩ (.bool (decide (y<0)))).setCell ⟨w.heap.size+1+1+1,1,none⟩ (.slice A' (limbs y.natAbs).length c')) B xs :=
  fun B xs hB=>(((hB.aside h.k2 zSm 0 _).aside (h.k2.set 0 _) zSm 1 _).aside k3 zSm 0 _).aside (k3.set 0 _) zSm 1 _
 exact ⟨_,_,rfl,⟨A,c,rfl,hl,go _ _ hc⟩,⟨A',c',rfl,hl',go _ _ hc'⟩,(((h.bel.setCell (p:=⟨w.heap.size+1+1,0,none⟩) (by show w.heap.size<=w.heap.size+1+1;omega) _).setCell (p:=⟨w.heap.size+1+1,1,none⟩) (by show w.heap.size<=w.heap.size+1+1;omega) _).setCell (p:=⟨w.heap.size+1+1+1,0,none⟩) (by show w.heap.size<=w.heap.size+1+1+1;omega) _).setCell (p:=⟨w.heap.size+1+1+1,1,none⟩) (by show w.heap.size<=w.heap.size+1+1+1;omega) _⟩
theorem zEo (A A':oAx) (a b c c':Nat) (na nb:Bool) (w:World) (ha:zAe .i64 w A (limbs a)) (hb:zAe .i64 w A' (limbs b)) (hla:(limbs a).length<=10000000) (hlb:(limbs b).length<=10000000) (hb0:0<b) :
  Calls Tryz.prog 82 #[.agg #[.bool na,.slice A (limbs a).length c],.agg #[.bool nb,.slice A' (limbs b).length c']] w (zFz w (zZc (na != nb) (a/b)) (zZc na (a%b))):=by
 have HC:=oH ha;have HC':=oH hb;have HB0:=oH hb0;obtain ⟨i0,hi,hz0,hz1,hz2⟩:=info_parts Tryz.infoInt
 have hmk:=fun W=>zYk (P:=Tryz.prog) 22 3 i0 .i64 8 Tryz.underlying22 hi hz0 hz1 hz2 (limbs a).length oMx oMx W
 have HLA:=oH (show ∀ i,nth (limbs a) i<1000000000 from (Low.limbs a).nth);have HLB:=oH (show ∀ i,nth (limbs b) i<1000000000 from (Low.limbs b).nth);have hlbp:0<(limbs b).length:=zQg.2 oMx;have HI:=oH hi;have HZ0:=oH hz0;have HZ1:=oH hz1;have HZ2:=oH hz2;clear ha hb hi hz0 hz1 hz2 hb0
 go_enter Tryz.func82,Tryz.ntmps82
 go_upto_region 2 with (fail);have hbx:=BQ.new w na nb (.slice A (limbs a).length c) (.slice A' (limbs b).length c');generalize (((w.alloc (.cells #[.bool na,.slice A (limbs a).length c] 85)).alloc (.cells #[.bool nb,.slice A' (limbs b).length c'] 85)).alloc (.cells #[.bool false,.slice none 0 0] 85)).alloc (.cells #[.bool false,.slice none 0 0] 85)=W at *;have hgs:w.heap.size+3<W.heap.size:=hbx.k3.lt;have HBX:=oH hbx;obtain ⟨ha0,ha1,hb0,hb1⟩:=hbx.four;clear hbx;go_upto_region 3 with (fail);clear hmk ha0 ha1 hb0 hb1
 have hq0:QW w (W.alloc (.cells (rowOf .i64 (xGk (limbs a).length)) 3)) na nb (.slice A (limbs a).length c) (.slice A' (limbs b).length c') W.heap.size (limbs a).length (xGk (limbs a).length):=by
  have h:=HBX.out;exact ⟨xGl _,zQr _,Row.new _ _ _ _,⟨h.k0.alloc _,h.k1.alloc _,h.k2.alloc _,h.k3.alloc _,h.bel.alloc (Nat.le_of_lt h.k0.lt) _⟩⟩
 generalize W.alloc (.cells (rowOf .i64 (xGk (limbs a).length)) 3)=W1 at *;generalize W.heap.size=g at *;have HQ0:=oH hq0;obtain ⟨ha0,ha1,hb0,hb1⟩:=hq0.four;clear hq0 HBX;go_wp2_with fail;clear ha0 ha1 hb0 hb1
 go_loopw [6,8] (fun rv ix wr=>∃ (k R:Nat) (qs:List Nat),k<=(limbs a).length/\ix = .int .i64 ((k:Int)-1)/\zBu wr rv (limbs R)/\R<b/\QW w wr na nb (.slice A (limbs a).length c) (.slice A' (limbs b).length c') g (limbs a).length qs/\b*val (qs.drop k)+R=val ((limbs a).drop k)) (fun _ i _=>(intOf i+1).toNat)
 case atStart =>
  refine ⟨(limbs a).length,0,xGk (limbs a).length,lRx,rfl,⟨none,0,by rw [zQo];rfl,by rw [zQo];simp,by rw [zQo];exact zAe.nil _ _ _⟩,HB0.out,HQ0.out,?_⟩
  rw [List.drop_eq_nil_of_le (by rw [xGl];omega),List.drop_length];rfl
 obtain ⟨k,R,qs,hk,rfl,hrow,hRb,hQ,hv⟩:=hrel;have HQ:=oH hQ;have HV:=oH hv;have HRB:=oH hRb;have HROW:=oH hrow;obtain ⟨AR,cR,rfl,hlR,hcR⟩:=hrow;obtain ⟨ha0,ha1,hb0,hb1⟩:=hQ.four;have HCR:=oH hcR;have hlRb:(limbs R).length<=(limbs b).length:=zQd (Nat.le_of_lt hRb);have hlR0:=hlRb;clear hQ hv hRb hcR HQ0
 rcases Nat.eq_zero_or_pos k with h0|h0
 ·subst h0;have hE:=HV.out;rw [List.drop_zero,List.drop_zero,xEf] at hE
  have hdiv:val qs=a/b:=by rw [<-hE,Nat.mul_add_div HB0.out,Nat.div_eq_of_lt HRB.out,Nat.add_zero]
  have hmod:R=a%b:=by rw [<-hE,Nat.mul_add_mod,Nat.mod_eq_of_lt HRB.out]
  have hlrow:=HQ.len
  have HT1:Hid (∀ V,Below wr.heap.size wr V->Calls Tryz.prog 116 #[.agg #[.bool (!na==nb),.slice (some ⟨g,0,none⟩) (limbs a).length (limbs a).length]] V (zFm V (zZc (na != nb) (a/b)))):=fun V hV =>
   zYc (na != nb) _ qs (a/b) V ⟨_,_,by rw [hlrow],oMx,HQ.row.cells.below hV⟩ HQ.low hdiv oMx
  have HT2:Hid (∀ V,Below wr.heap.size wr V->Calls Tryz.prog 116 #[.agg #[.bool na,.slice AR (limbs R).length cR]] V (zFm V (zZc na (a%b)))):=fun V hV =>
   zYc na _ (limbs R) (a%b) V (HROW.below hV) (Low.limbs R) (by rw [xEf];exact hmod) oMx
  clear hE hdiv hmod hlrow HV;go_wp2_with fail
  go_region_held3 (fun w'=>w'.cell? ⟨w.heap.size,0,none⟩=some (.bool na)/\w'.cell? ⟨w.heap.size,1,none⟩=some (.slice A (limbs a).length c)/\w'.cell? ⟨w.heap.size+1,0,none⟩=some (.bool nb)/\w'.cell? ⟨w.heap.size+1,1,none⟩=some (.slice A' (limbs b).length c'))
   (first|(with_reducible exact HQB.out.four)|(with_reducible exact HQA.out.four)|(with_reducible exact HQB.out.stored1 _ _)|(with_reducible exact HQB.out.stored2 _ _ _ _)|go_keep)
   (first|(go_at_call 116;have HBB:=HBA.out;refine (HT2.out _ HBB).mono ?_;clear HBB;rintro e w3 ⟨v3,rfl,⟨A3,c3,rfl,hl3,hc3⟩,hb3⟩;have HQB:=oH (HQA.below hb3);have HC23:=oH (HC2.below hb3);have HC3:=oH hc3;have hr0:w3.cell? ⟨w.heap.size+1+1,0,none⟩=some (.bool false):=HQB.k2.at_ rfl;have hr1:w3.cell? ⟨w.heap.size+1+1,1,none⟩=some (.slice none 0 0):=HQB.k2.at_ rfl;have hf0:=HQB.k2.fr 0;have hf1:=HQB.k2.fr 1;have hs0:w3.cell? ⟨w.heap.size+1+1+1,0,none⟩=some (.bool false):=HQB.k3.at_ rfl;have hs1:w3.cell? ⟨w.heap.size+1+1+1,1,none⟩=some (.slice none 0 0):=HQB.k3.at_ rfl;have hg0:=HQB.k3.fr 0;have hg1:=HQB.k3.fr 1;clear hb3 hc3)|(go_at_call 116;refine (HT1.out _ (by exact bRx.drew)).mono ?_;rintro e w2 ⟨v2,rfl,⟨A2,c2,rfl,hl2,hc2⟩,hb2⟩;have HBA:=oH ((Below.refl wr.heap.size wr).drew.trans (hb2.mono lRx));have HQA:=oH (HQ.bq.drew.below hb2);have HC2:=oH hc2;clear hb2 hc2))
  go_wp2_with fail;refine bodyPost_ret (v := .tuple #[.agg #[.bool (decide (zZc (na != nb) (a/b)<0)),.slice A2 (limbs (zZc (na != nb) (a/b)).natAbs).length c2],.agg #[.bool (decide (zZc na (a%b)<0)),.slice A3 (limbs (zZc na (a%b)).natAbs).length c3]]) (by simp [results,Tryz.results82,go_sem,hr0,hr1,hs0,hs1]) rfl ?_;exact quo_end HQB.out HC23.out hl2 HC3.out hl3
 obtain ⟨j,rfl⟩:∃ j,k=j+1:=⟨k-1,oMx⟩;obtain ⟨ga,offa,eA,hga,hca⟩:=HC.out (by intro e;rw [e] at hk;simp at hk);subst eA;have hcai:wr.cell? ⟨ga,offa+j,none⟩=some (.int .i64 ((nth (limbs a) j:Nat):Int)):=(HQ.bq.bel.cell (p:=⟨ga,offa+j,none⟩) hga).trans (hca j oMx);clear hca;have hxj:=HLA.out j;have HOL:Hid ((wr.alloc (.cells #[.int .i64 ((nth (limbs a) j:Nat):Int)] 3)).ownsRow wr.heap.size 3 1 (.slice (some ⟨wr.heap.size,0,none⟩) 1 1) 1 [.int .i64 ((nth (limbs a) j:Nat):Int)]):=World.ownsRow_lit wr #[.int .i64 ((nth (limbs a) j:Nat):Int)] 1 lRx (by unfold maxLen;omega) rfl;have HBA:Hid (Below wr.heap.size wr (wr.alloc (.cells #[.int .i64 ((nth (limbs a) j:Nat):Int)] 3))):=bA
 go_wp2_with (at_builtin;refine xFu rfl _ _ 22 rfl wr.heap.size 3 i0 Tryz.underlying22 HI.out HZ0.out HZ1.out HZ2.out _ 1 [.int .i64 ((nth (limbs a) j:Nat):Int)] rfl HOL.out AR (limbs R) cR rfl (HCR.below HBA.out) oMx sMx ?_)
 intro v' w1 hown1 hgrow1
 obtain ⟨h,cap,rfl,hBh,hlt1⟩:=hown1.form oMx
 have hrow1:zBu w1 (.slice (some ⟨h,0,none⟩) (1+(limbs R).length) cap) (nth (limbs a) j::limbs R):=by
  have:=zUu (xs:=nth (limbs a) j::limbs R) (v := .slice (some ⟨h,0,none⟩) (1+(limbs R).length) cap) (B:=wr.heap.size) (e:=3) (w:=w1) (by rw [show (nth (limbs a) j::limbs R).length=1+(limbs R).length by rw [List.length_cons,Nat.add_comm]];exact hown1);exact this
 have hgh:g<h:=Nat.lt_of_lt_of_le HQ.row.lt hBh;have hb1:Below wr.heap.size wr w1:=HBA.grown hgrow1 sMx (fun k hk=>by simp [Value.ownBlock] at hk;omega);have hQ1:=HQ.below hb1;obtain ⟨A1,c1,e1,hl1,hcl1⟩:=hrow1
 have e2:A1=some ⟨h,0,none⟩/\c1=cap:=by
  have:=e1;injection this with h1 h2 h3;exact ⟨h1.symm,h3.symm⟩
 obtain ⟨rfl,rfl⟩:=e2;have HTR:=oH (zYb false (some ⟨h,0,none⟩) (nth (limbs a) j::limbs R) c1 w1 hcl1 (by rw [List.length_cons];omega) hl1);rw [zPw hxj,List.length_cons,Nat.add_comm] at HTR;have HCT:=oH (hcl1.take (xDa (nth (limbs a) j::limbs R)).length);rw [<-xDe,zPw hxj] at HCT
 have hlt:(limbs (R*1000000000+nth (limbs a) j)).length<=c1:=by
  have h1:=xDb (nth (limbs a) j::limbs R);rw [zPw hxj] at h1;omega
 have hRb':=HRB.out
 have hR2:R*1000000000+nth (limbs a) j<b*1000000000:=by omega
 have HQ1:=oH hQ1;have HST:=oH (zZt qs (limbs a) j b R (by rw [HQ.len];omega) HB0.out HV.out);generalize hRR:R*1000000000+nth (limbs a) j=RR at *;have HRR:=oH hRR;clear hown1 hgrow1 e1 hcl1 hl1 hQ1 hRb' hRR;go_wp2_with fail;refine HTR.mono ?_;rintro e w2 ⟨rfl,hb2⟩;clear HTR;have HQ2:=oH (HQ1.below hb2);have HCR2:=oH (HCT.below hb2);clear hb2 ha0 ha1 hb0 hb1 hcai;obtain ⟨ha0,ha1,hb0,hb1⟩:=HQ2.four
 have hlRR:(limbs RR).length<=(limbs b).length+1:=by
  refine zQb ?_;rw [Nat.pow_succ];exact Nat.lt_of_lt_of_le hR2 (Nat.mul_le_mul_right _ (Nat.le_of_lt (zQh b)))
 go_wp2_with fail
 go_quiet (fail)
 go_wp2_with fail;refine (zXk (some ⟨h,0,none⟩) A' RR b c1 c' _ (HCR2.drewN nq) (HC'.below (HQ2.bq.drewN nq).bel) oMx oMx).mono ?_;rintro e w3 ⟨rfl,hb3⟩;have HQ3:=oH ((HQ2.drewN nq).below hb3);have HCR3:=oH ((HCR2.drewN nq).below hb3);clear hb3 ha0 ha1 hb0 hb1 HQ2 HCR2 HCT HQ HOL HBA HQ1 HCR HROW;obtain ⟨ha0,ha1,hb0,hb1⟩:=HQ3.four;obtain ⟨n,hn⟩:∃ n,(limbs b).length=n+1:=⟨(limbs b).length-1,oMx⟩;have HN:=oH hn;have HEST:=oH (quo_est hn hR2);obtain ⟨gb,offb,eB,hgb,hcb⟩:=HC'.out (by intro e;rw [e] at hlbp;simp at hlbp);subst eB;have hcbn:w3.cell? ⟨gb,offb+n,none⟩=some (.int .i64 ((nth (limbs b) n:Nat):Int)):=(HQ3.bq.bel.cell (p:=⟨gb,offb+n,none⟩) hgb).trans (hcb n oMx);have hy0:=zSs hn;have hyn:=HLB.out n;clear hcb;obtain ⟨cm,hcm⟩:∃ cm:Int,cm=zJk RR b:=⟨_,rfl⟩;rw [<-hcm];have HCM:=oH hcm;clear hcm hn;obtain ⟨D,hD⟩:∃ D,D=RR/b:=⟨_,rfl⟩
 have hDB:D<1000000000:=by rw [hD];exact HEST.2.2
 have HD:=oH hD;clear hD
 go_upto_if 44 with (fail)
 go_cut [9,10] (fun lo hi wc=>∃ l u:Nat,lo = .int .i64 (l:Int)/\hi = .int .i64 (u:Int)/\l<=D/\D<=u/\u<1000000000/\QW w wc na nb (.slice (some ⟨ga,offa,none⟩) (limbs a).length c) (.slice (some ⟨gb,offb,none⟩) (limbs b).length c') g (limbs a).length qs/\zAe .i64 wc (some ⟨h,0,none⟩) (limbs RR))
 case first =>
  rcases Nat.lt_or_ge RR b with hlt2|hge2
  ·have hcm0:¬0<=cm:=by rw [HCM.out,zJn hlt2];omega
   go_wp2_with fail
   go_meet
   exact ⟨0,0,rfl,rfl,oLx,by rw [HD.out,Nat.div_eq_of_lt hlt2];omega,oMx,HQ3.out,HCR3.out⟩
  have hcm0:0<=cm:=by rw [HCM.out];rcases Nat.lt_or_eq_of_le hge2 with h|h;(rw [zJm h];omega);(rw [zJl h.symm];omega)
  have hln:n<(limbs RR).length:=by have:=zQd hge2;have:=HN.out;omega
  obtain ⟨h',off',eh,hh',hch⟩:=HCR3.out (by intro e;rw [e] at hln;simp at hln);injection eh with eh;injection eh with eh1 eh2;subst eh1 eh2;have hcn:=hch n hln;rw [Nat.zero_add] at hcn;have hRn:=(Low.limbs RR).nth n
  have hidx:((limbs b).length:Int)-1=(n:Int):=by have:=HN.out;omega
  have hnb:n<(limbs b).length:=by have:=HN.out;omega
  have hyz:(((nth (limbs b) n:Nat):Int)==0)=false:=beq_eq_false_iff_ne.2 oMx;have hyz':(((nth (limbs b) n:Nat):Int)+1==0)=false:=beq_eq_false_iff_ne.2 oMx
  by_cases h2:(limbs b).length<(limbs RR).length
  ·
   have hcn1:=hch (limbs b).length h2;rw [Nat.zero_add] at hcn1;have hRn1:=(Low.limbs RR).nth (limbs b).length
   have etop:(nth (limbs RR) n:Int)+(nth (limbs RR) (limbs b).length:Int)*1000000000=((nth (limbs RR) n+nth (limbs RR) (n+1)*1000000000:Nat):Int):=by rw [HN.out];omega
   have hest:=HEST.out;rw [<-HD.out] at hest
   have e1:((nth (limbs RR) n:Int)+(nth (limbs RR) (limbs b).length:Int)*1000000000)/((nth (limbs b) n:Nat):Int)=(((nth (limbs RR) n+nth (limbs RR) (n+1)*1000000000)/nth (limbs b) n:Nat):Int):=by rw [etop];rfl
   have e2:((nth (limbs RR) n:Int)+(nth (limbs RR) (limbs b).length:Int)*1000000000)/(((nth (limbs b) n:Nat):Int)+1)=(((nth (limbs RR) n+nth (limbs RR) (n+1)*1000000000)/(nth (limbs b) n+1):Nat):Int):=by rw [etop];rfl
   have hT0:nth (limbs RR) n+nth (limbs RR) (n+1)*1000000000<=999999999999999999:=by have:=(Low.limbs RR).nth (n+1);omega
   have hT1:(((nth (limbs RR) n+nth (limbs RR) (n+1)*1000000000)/nth (limbs b) n:Nat):Int)<=999999999999999999:=by have:=Nat.div_le_self (nth (limbs RR) n+nth (limbs RR) (n+1)*1000000000) (nth (limbs b) n);omega
   have hT2:(((nth (limbs RR) n+nth (limbs RR) (n+1)*1000000000)/(nth (limbs b) n+1):Nat):Int)<=999999999999999999:=by have:=Nat.div_le_self (nth (limbs RR) n+nth (limbs RR) (n+1)*1000000000) (nth (limbs b) n+1);omega
   have hT3:(D:Int)<=(((nth (limbs RR) n+nth (limbs RR) (n+1)*1000000000)/nth (limbs b) n:Nat):Int):=Int.ofNat_le.2 hest.1;have hT4:(((nth (limbs RR) n+nth (limbs RR) (n+1)*1000000000)/(nth (limbs b) n+1):Nat):Int)<=(D:Int):=Int.ofNat_le.2 hest.2.1;have hT5:0<=(((nth (limbs RR) n+nth (limbs RR) (n+1)*1000000000)/(nth (limbs b) n+1):Nat):Int):=Int.natCast_nonneg _;generalize (((nth (limbs RR) n+nth (limbs RR) (n+1)*1000000000)/nth (limbs b) n:Nat):Int)=t1 at *;generalize (((nth (limbs RR) n+nth (limbs RR) (n+1)*1000000000)/(nth (limbs b) n+1):Nat):Int)=t2 at *;clear hch etop hest hT0;go_wp2_with fail
   all_goals
    go_meet
    first|(refine ⟨t2.toNat,t1.toNat,zOq oMx,zOq oMx,?_,?_,?_,HQ3.out,HCR3.out⟩<;>omega)|(refine ⟨t1.toNat,t1.toNat,zOq oMx,zOq oMx,?_,?_,?_,HQ3.out,HCR3.out⟩<;>omega)|(refine ⟨t2.toNat,999999999,zOq oMx,rfl,?_,?_,?_,HQ3.out,HCR3.out⟩<;>omega)|(refine ⟨999999999,999999999,rfl,rfl,?_,?_,?_,HQ3.out,HCR3.out⟩<;>omega)
     
  have hz0:nth (limbs RR) (n+1)=0:=zSr (by have:=HN.out;omega)
  have etop:(nth (limbs RR) n:Int)=((nth (limbs RR) n+nth (limbs RR) (n+1)*1000000000:Nat):Int):=by rw [hz0];omega
  clear hz0;have hest:=HEST.out;rw [<-HD.out] at hest
  have e1:((nth (limbs RR) n:Int))/((nth (limbs b) n:Nat):Int)=(((nth (limbs RR) n+nth (limbs RR) (n+1)*1000000000)/nth (limbs b) n:Nat):Int):=by rw [etop];rfl
  have e2:((nth (limbs RR) n:Int))/(((nth (limbs b) n:Nat):Int)+1)=(((nth (limbs RR) n+nth (limbs RR) (n+1)*1000000000)/(nth (limbs b) n+1):Nat):Int):=by rw [etop];rfl
  have hT0:nth (limbs RR) n+nth (limbs RR) (n+1)*1000000000<=999999999999999999:=by have:=(Low.limbs RR).nth (n+1);omega
  have hT1:(((nth (limbs RR) n+nth (limbs RR) (n+1)*1000000000)/nth (limbs b) n:Nat):Int)<=999999999999999999:=by have:=Nat.div_le_self (nth (limbs RR) n+nth (limbs RR) (n+1)*1000000000) (nth (limbs b) n);omega
  have hT2:(((nth (limbs RR) n+nth (limbs RR) (n+1)*1000000000)/(nth (limbs b) n+1):Nat):Int)<=999999999999999999:=by have:=Nat.div_le_self (nth (limbs RR) n+nth (limbs RR) (n+1)*1000000000) (nth (limbs b) n+1);omega
  have hT3:(D:Int)<=(((nth (limbs RR) n+nth (limbs RR) (n+1)*1000000000)/nth (limbs b) n:Nat):Int):=Int.ofNat_le.2 hest.1;have hT4:(((nth (limbs RR) n+nth (limbs RR) (n+1)*1000000000)/(nth (limbs b) n+1):Nat):Int)<=(D:Int):=Int.ofNat_le.2 hest.2.1;have hT5:0<=(((nth (limbs RR) n+nth (limbs RR) (n+1)*1000000000)/(nth (limbs b) n+1):Nat):Int):=Int.natCast_nonneg _;generalize (((nth (limbs RR) n+nth (limbs RR) (n+1)*1000000000)/nth (limbs b) n:Nat):Int)=t1 at *;generalize (((nth (limbs RR) n+nth (limbs RR) (n+1)*1000000000)/(nth (limbs b) n+1):Nat):Int)=t2 at *;clear hch etop hest hT0;go_wp2_with fail
  all_goals
   go_meet
   first|(refine ⟨t2.toNat,t1.toNat,zOq oMx,zOq oMx,?_,?_,?_,HQ3.out,HCR3.out⟩<;>omega)|(refine ⟨t1.toNat,t1.toNat,zOq oMx,zOq oMx,?_,?_,?_,HQ3.out,HCR3.out⟩<;>omega)|(refine ⟨t2.toNat,999999999,zOq oMx,rfl,?_,?_,?_,HQ3.out,HCR3.out⟩<;>omega)|(refine ⟨999999999,999999999,rfl,rfl,?_,?_,?_,HQ3.out,HCR3.out⟩<;>omega)
 case rest =>
  obtain ⟨l,u,rfl,rfl,hl1,hu1,hu2,hQc,hcc⟩:=hcut;have HQC:=oH hQc;have HCC:=oH hcc;clear hQc hcc HQ3 HCR3 ha0 ha1 hb0 hb1 hcbn;go_wp2_with fail;obtain ⟨wo,rfl⟩:=nWx wr
  go_loopw [9,10] (fun lo hi wr=>∃ l u:Nat,lo = .int .i64 (l:Int)/\hi = .int .i64 (u:Int)/\l<=D/\D<=u/\u<1000000000/\Below wc.heap.size wc wr) (fun lo hi _=>(intOf hi-intOf lo).toNat)
  ·exact ⟨l,u,rfl,rfl,hl1,hu1,hu2,bRx⟩
  obtain ⟨l,u,rfl,rfl,hl1,hu1,hu2,hbc⟩:=hrel;have HQD:=oH (HQC.below hbc);have HCD:=oH (HCC.below hbc);have HBC:=oH hbc;obtain ⟨ha0,ha1,hb0,hb1⟩:=HQD.four;clear hbc
  by_cases hlu:l<u
  ·have em:((l:Int)+(u:Int)+1)/2=(((l+u+1)/2:Nat):Int):=by omega
   have EM:=oH em;clear em;go_wp2_with fail;rw [EM.out]
   have hm1:l<(l+u+1)/2:=by omega
   have hm2:(l+u+1)/2<=u:=by omega
   clear EM;generalize (l+u+1)/2=m at *;refine (zYa (some ⟨gb,offb,none⟩) b m c' _ (HC'.below HQD.bq.bel) oMx oMx).mono ?_;rintro e w5 ⟨v5,rfl,⟨A5,c5,rfl,hl5,hc5⟩,hb5⟩;have HC5:=oH hc5;have HCE:=oH (HCD.below hb5);have HBE:=bTx2 HBC hb5;clear hc5 hb5
   have hl5':(limbs (m*b)).length<=1+(limbs b).length:=Nat.le_trans (zPp m b) (by
    have:(limbs m).length<=1:=zQb oMx
    omega)
   go_wp2_with fail;refine (zXk A5 (some ⟨h,0,none⟩) (m*b) RR c5 c1 _ HC5.out HCE.out oMx oMx).mono ?_;rintro e w6 ⟨rfl,hb6⟩;have HBF:=bTx2 HBE hb6;clear hb6
   by_cases hc:m*b<=RR
   ·have hmD:m<=D:=by rw [HD.out];exact zVr HB0.out hc
    obtain ⟨cm2,hcm2,hcm20⟩:∃ cm2:Int,cm2=zJk (m*b) RR/\cm2<=0:=⟨_,rfl,by rcases Nat.lt_or_eq_of_le hc with h|h;(rw [zJn h];omega);(rw [zJl h];omega)⟩;rw [<-hcm2];clear hcm2 hc;go_wp2_with fail;go_roundw
    ·exact ⟨m,u,rfl,rfl,hmD,hu1,hu2,HBF.out⟩
    simp [intOf];omega
   have hmD:D<m:=by rw [HD.out];exact zVq HB0.out oMx
   obtain ⟨cm2,hcm2,hcm20⟩:∃ cm2:Int,cm2=zJk (m*b) RR/\¬cm2<=0:=⟨_,rfl,by rw [zJm oMx];omega⟩;rw [<-hcm2];clear hcm2 hc;go_wp2_with fail;go_roundw
   ·exact ⟨l,m-1,rfl,by rw [Int.natCast_sub oMx];rfl,hl1,oMx,oMx,HBF.out⟩
   simp [intOf];omega
  obtain rfl:l=D:=by omega
  obtain rfl:u=l:=by omega
  have hcell:=HQD.row.cell (i:=j) (by rw [HQD.len];omega);have hfr:=HQD.row.frozen j;go_upto_region 20 with (fail);have hqs:=HQD.step (i:=j) (x:=u) oMx oMx;have hcs:=HCD.other (g:=g) (fun b off e=>by injection e with e;injection e with e1 e2;omega) j (.int .i64 (u:Int));generalize wr.setCell ⟨g,j,none⟩ (.int .i64 (u:Int))=wt at *;have HQT:=oH hqs;have HCT:=oH hcs;have hST:=HST.out;rw [<-HD.out] at hST;have HST2:=oH hST
  have hmod:RR%b=RR-u*b:=by
   have h1:=Nat.div_add_mod RR b;rw [<-HD.out,Nat.mul_comm] at h1;omega
  have hle:u*b<=RR:=by rw [HD.out];exact Nat.div_mul_le_self _ _
  have HMOD:=oH hmod;have HLE:=oH hle;have hmlt:=Nat.mod_lt RR HB0.out;have HMLT:=oH hmlt;clear hqs hcs hST hmod hle hmlt hcell hfr ha0 ha1 hb0 hb1;obtain ⟨ha0,ha1,hb0,hb1⟩:=HQT.four
  by_cases hd0:0<u
  ·go_wp2_with fail;refine (zYa (some ⟨gb,offb,none⟩) b u c' _ (HC'.below HQT.bq.bel) oMx oMx).mono ?_;rintro e w5 ⟨v5,rfl,⟨A5,c5,rfl,hl5,hc5⟩,hb5⟩;have HC5:=oH hc5;have HCE:=oH (HCT.below hb5);have HQE:=oH (HQT.below hb5)
   have hl5':(limbs (u*b)).length<=1+(limbs b).length:=Nat.le_trans (zPp u b) (by
    have:(limbs u).length<=1:=zQb oMx
    omega)
   clear hc5 hb5;go_wp2_with fail;refine (zWo (some ⟨h,0,none⟩) A5 RR (u*b) c1 c5 _ HCE.out HC5.out oMx oMx HLE.out (by have h1:=HLE.out;have h2:=Nat.mul_pos hd0 HB0.out;omega)).mono ?_;rintro e w6 ⟨v6,xs6,rfl,hr6,hlow6,hv6,hl6,hb6⟩;have HQF:=oH (HQE.below hb6);rw [<-HMOD.out] at hv6;have HTR:=oH (zYc false v6 xs6 (RR%b) w6 hr6 hlow6 hv6 oMx);obtain ⟨A6,c6,rfl,hl6',hc6⟩:=hr6;clear hlow6 hv6 hb6 hc6;go_wp2_with fail;refine HTR.mono ?_;rintro e w7 ⟨v7,rfl,⟨A7,c7,rfl,hl7,hc7⟩,hb7⟩;have HQG:=oH (HQF.below hb7);have HC7:=oH hc7;clear hb7 hc7 HTR;go_wp2_with fail;go_roundw
   ·exact ⟨j,RR%b,qs.set j u,oMx,by go_num,⟨A7,c7,by rw [zZe],by rw [zZe] at hl7;exact hl7,by have:=HC7.out;rw [zZe] at this;exact this⟩,HMLT.out,HQG.out,HST2.out⟩
   simp [intOf]
  have h00:u=0:=by omega
  have hRR:RR%b=RR:=by rw [HMOD.out,h00,Nat.zero_mul];rfl
  have HRE:=oH hRR;clear h00 hRR;go_wp2_with fail;go_roundw
  ·exact ⟨j,RR%b,qs.set j u,oMx,by go_num,by rw [HRE.out];exact ⟨_,c1,rfl,hlt,HCT.out⟩,HMLT.out,HQT.out,HST2.out⟩
  simp [intOf]
theorem sgnB_quo (x y:Int):zZc (decide (x<0) != decide (y<0)) (x.natAbs/y.natAbs)=x.tdiv y:=by
 have hx:=zZg x;have hy:=zZg y;generalize decide (x<0)=a at *;generalize decide (y<0)=b at *;rw [<-hx,<-hy];simp only [zZe]
 cases a<;>cases b<;>simp [zZc,Int.tdiv_neg,Int.neg_tdiv]
theorem sgnB_rem (x y:Int):zZc (decide (x<0)) (x.natAbs%y.natAbs)=x.tmod y:=by
 have hx:=zZg x;have hy:=zZg y;generalize decide (x<0)=a at *;generalize decide (y<0)=b at *;rw [<-hx,<-hy];simp only [zZe]
 cases a<;>cases b<;>simp [zZc,Int.tmod_neg,Int.neg_tmod]<;>rfl
theorem zEn (u v:Value) (x y:Int) (w:World) (hx:zBm w u x) (hy:zBm w v y) (hlx:(limbs x.natAbs).length<=10000000) (hly:(limbs y.natAbs).length<=10000000) (hy0:y≠0) :
  Calls Tryz.prog 82 #[u,v] w (zFz w (x.tdiv y) (x.tmod y)):=by
 obtain ⟨A,c,rfl,hlc,hc⟩:=hx;obtain ⟨A',c',rfl,hlc',hc'⟩:=hy;have h:=zEo A A' x.natAbs y.natAbs c c' (decide (x<0)) (decide (y<0)) w hc hc' hlx hly oMx;rw [sgnB_quo,sgnB_rem] at h;exact h
end Go.Proofs.YtbjaplppalcmgaaGreatDoor
