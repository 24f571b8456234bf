import Derived.Test.YtbjaplppalcmgaaGreatDoorZB
import Derived.Laws.CopyOwn
import Derived.StillTailTactics
set_option maxHeartbeats 16000000
set_option maxRecDepth 100000
namespace Go.Proofs.YtbjaplppalcmgaaGreatDoor
open Go.RowKit
theorem zAe.alloc {k:IntKind} {w:World} {A:oAx} {xs:List Nat} (h:zAe k w A xs) (o:Obj):zAe k (w.alloc o) A xs :=
 h.keep sMx fun p hp=>World.cell?_alloc_lt w o p hp
theorem zBr.zero (w:World):zBr w (.slice none 0 0) 0:=⟨none,0,by rw [zQo];rfl,by rw [zQo];simp,by rw [zQo];exact zAe.nil _ _ _⟩
theorem zBr.mk {w:World} {A:oAx} {n c:Nat} (hl:(limbs n).length<=c) (h:zAe .u64 w A (limbs n)):zBr w (.slice A (limbs n).length c) n:=⟨A,c,rfl,hl,h⟩
def zFv (w:World) (q r:Nat) (e:Ending) (w':World):Prop:=∃ v u,e = .returned (.tuple #[v,u])/\zBr w' v q/\zBr w' u r/\Below w.heap.size w w'
theorem row_one (w:World) (x:Nat):Row .u64 (w.alloc (.cells #[.int .u64 (x:Int)] 126)) w.heap.size 126 [x]:=Row.new .u64 w 126 [x]
theorem trim_one {w:World} {g r:Nat} (h:Row .u64 w g 126 [r]) (hr:r<1000000000) :
  Calls Tryz.prog 91 #[.slice (some ⟨g,0,none⟩) 1 1] w fun e w'=>∃ v,e = .returned v/\zBr w' v r/\w=w':=by
 have hlow:Low [r]:=Low.cons hr Low.nil
 have hv:val [r]=r:=by simp [val]
 have ht:xDa [r]=limbs r:=by rw [<-zQm hlow,hv]
 exact (xDi (w:=w) (g:=g) (n:=1) ⟨rfl,hlow,by simpa [xGk] using h,bRx⟩ oMx ht).mono fun _ _ ⟨v,h1,h2,h3,_⟩=>⟨v,h1,h2,h3⟩
theorem zMp (A A':oAx) (a b c c':Nat) (w:World) (ha:zAe .u64 w A (limbs a)) (hb:zAe .u64 w A' (limbs b)) (hla:(limbs a).length<=100000000) (hlb:(limbs b).length<=100000000) (hc:(limbs a).length<=c) (hab:a<b) :
  Calls Tryz.prog 110 #[.slice A (limbs a).length c,.slice A' (limbs b).length c'] w (zFv w (a/b) (a%b)):=by
 have HC:=oH (zJu A A' a b c c' w ha hb oMx oMx);rw [zJn hab] at HC
 go_enter Tryz.func110,Tryz.ntmps110
 go_wp2_with fail;refine HC.mono ?_;rintro e w' ⟨rfl,m,rfl⟩;go_wp2_with fail;go_ret2
 rw [Nat.div_eq_of_lt hab,Nat.mod_eq_of_lt hab];exact ⟨_,_,rfl,zBr.zero _,zBr.mk hc ha,below_drewN bRx _⟩
theorem zMq (A A':oAx) (a b c c':Nat) (w:World) (ha:zAe .u64 w A (limbs a)) (hb:zAe .u64 w A' (limbs b)) (hla:(limbs a).length<=100000000) (hlb:(limbs b).length=1) (hab:b<=a) :
  Calls Tryz.prog 110 #[.slice A (limbs a).length c,.slice A' (limbs b).length c'] w (zFv w (a/b) (a%b)):=by
 have HC:=oH (zJu A A' a b c c' w ha hb oMx oMx);obtain ⟨x,hx,hx0⟩:∃ x:Int,x=zJk a b/\0<=x:=⟨_,rfl,by rcases Nat.lt_or_eq_of_le hab with h|h;(rw [zJm h];omega);(rw [zJl h.symm];omega)⟩;rw [<-hx] at HC;clear hx;have hbp:=zSs (n:=0) hlb;have hbl:=zQh b;rw [hlb,Nat.pow_one] at hbl;have hb1:limbs b=[b]:=zQi (by rcases Nat.eq_zero_or_pos b with e|e;(subst e;rw [zQo] at hlb;simp at hlb);exact e) hbl
 have hb0:0<b:=by rcases Nat.eq_zero_or_pos b with e|e;(subst e;rw [zQo] at hlb;simp at hlb);exact e
 obtain ⟨g,off,rfl,hg,hcl⟩:=hb (by rw [hb1];simp);have hcell:=hcl 0 oMx;rw [hb1,zSq,Nat.add_zero] at hcell;rw [hlb] at HC ⊢;clear hcl hb;clear hb1 hbp;have HL:=oH hlb;clear hlb;have HS:=oH (fun W hW=>zZq A a b c W hW hla hb0 hbl)
 go_enter Tryz.func110,Tryz.ntmps110
 go_wp2_with fail;refine HC.mono ?_;rintro e w' ⟨rfl,m,rfl⟩;go_wp2_with fail;refine (HS.out _ (ha.drewN m)).mono ?_;rintro e w1 ⟨v,rfl,hv,hbel⟩;have hmod:=Nat.mod_lt a hb0;go_wp2_with fail;refine (trim_one (row_one w1 (a%b)) oMx).mono ?_;rintro e w2 ⟨u,rfl,hu,rfl⟩;go_wp2_with fail;go_ret2
 have hbe:Below w1.heap.size w1 (w1.alloc (.cells #[.int .u64 ((a%b:Nat):Int)] 126)):=bA;have hb2:Below w.heap.size w (w.drewN m):=below_drewN bRx _;exact ⟨v,u,rfl,hv.below hbe,hu,(hb2.trans hbel).trans (hbe.mono hbel.size)⟩
theorem xGa {P:Program} {w:World} {ops:Array Oper} {rest:List Oper} {o:Oper} {a:Act} {Q:Exit->Act->World->Prop} (hgd:o.guard=none) (d s:Operand) (dT sT:TypeId)
  (ho:o.op = .call { callee := .builtin .copy,args:=#[d,s],argTypes:=#[dT,sT] }) (elem:TypeId) (hu:P.underlying dT=some (.slice elem)) (hsz:(P.info? elem).map (·.size)=some 1)
  (k:IntKind) (g dLen dCap:Nat) (A:oAx) (sLen sCap:Nat) (hd:a.eval d = .slice (some ⟨g,0,none⟩) dLen dCap) (hs:a.eval s = .slice A sLen sCap)
  (cur xs:List Nat) (t:TypeId) (hg:Row k w g t cur) (hc:zAe k w A xs) (hx:xs.length=sLen) (hle:sLen<=dLen) (hcur:cur.length=dLen) (hne:xs≠[])
  (h:∀ w',Row k w' g t (xs++cur.drop xs.length)->w.grownBy w' (some g)->wpList P ops Q rest (a.put o.dst (goInt xs.length)) w'):wpList P ops Q (o::rest) a w:=by
 obtain ⟨b,off,rfl,hb,hcl⟩:=hc hne;refine wpList_copy_own hgd d s dT sT ho elem hu hsz g 0 dLen dCap ⟨b,off,none⟩ sLen sCap hd hs (rowOf k cur) t hg ((rowOf k xs).toList) ?_ ?_ ?_ ?_ ?_
 ·have:(rowOf k xs).toList.length=xs.length:=by simp [rowOf]
  rw [this,hx];exact (Nat.min_eq_left hle).symm
 ·intro j v hj
  have hjl:j<xs.length:=by
   rcases Nat.lt_or_ge j xs.length with h1|h1
   ·exact h1
   rw [List.getElem?_eq_none (by simp [rowOf];omega)] at hj;cases hj
  have e:(rowOf k xs).toList[j]? = some (.int k ((nth xs j:Nat):Int)):=by
   rw [Array.getElem?_toList];exact zWq hjl
  rw [e] at hj;injection hj with hj;subst hj;have h2:=hcl j hjl
  have e2:(⟨b,off,none⟩:Addr).add j=⟨b,off+j,none⟩:=by
   unfold Addr.add;by_cases h0:j=0<;>simp [h0]
  rw [e2];exact h2
 ·simp [rowOf];omega
 ·intro v hv
  simp [rowOf] at hv
  obtain ⟨x,_,rfl⟩:=hv
  rfl
 have e1:(rowOf k xs).toList.length=xs.length:=by simp [rowOf]
 rw [e1];refine h _ ?_ ?_
 ·have h3:=setRow_heap w g _ ((rowOf k cur).toList.take 0++((rowOf k xs).toList++(rowOf k cur).toList.drop (0+xs.length))).toArray t _ hg;unfold Row;rw [h3]
  simp [rowOf,List.map_drop]
 exact ⟨rfl,rfl,rfl,by simp,fun j _ hj=>setRow_other w g j _ (fun e=>hj (by rw [e]))⟩
theorem sizeU64:(Tryz.prog.info? 126).map (·.size)=some 1:=by kernel_rfl
theorem zBr.cells {w:World} {A:oAx} {l c n:Nat} (h:zBr w (.slice A l c) n):zAe .u64 w A (limbs n):=by
 obtain ⟨A',c',e,_,hc⟩:=h;injection e with e _ _;subst e;exact hc
structure zAo (w wr:World) (g h:Nat) (A2:oAx) (a b f n K k:Nat) (us qs:List Nat):Prop where
 row:Row .u64 wr g 126 us
 len:us.length=K+(n+2)
 low:Low us
 qrow:Row .u64 wr h 126 qs
 qlen:qs.length=K
 qlow:Low qs
 div:Div a b f k us qs
 vs:zAe .u64 wr A2 (limbs (b*f))
 fr:Row .u64 wr w.heap.size 126 [f]
 bel:Below w.heap.size w wr
theorem zIq {B:Nat} {a w w':World} {g:Nat} (h:Below B a w) (hg:w.grownBy w' (some g)) (hB:B<=w.heap.size) (hr:B<=g):Below B a w' :=
 h.grown hg hB (fun k e=>by injection e with e;omega)
theorem Row.only {k:IntKind} {w w':World} {g h:Nat} {t:TypeId} {xs:List Nat} (hr:Row k w h t xs) (hg:w.grownBy w' (some g)) (hne:h≠g):Row k w' h t xs :=
 (hg.block h hr.lt (fun e=>hne (by injection e))).trans hr
theorem Row.only_set {k:IntKind} {w:World} {g h i:Nat} {t:TypeId} {xs:List Nat} (hr:Row k w h t xs) (u:Value) (hne:h≠g):Row k (w.setCell ⟨g,i,none⟩ u) h t xs:=hr.far (p:=⟨g,i,none⟩) hne u
theorem split3 (us:List Nat) (j m:Nat):us=us.take j++((us.drop j).take m++us.drop (j+m)):=by
 rw [<-List.drop_drop,List.take_append_drop,List.take_append_drop]
theorem zAo.step {w wr w2:World} {g h:Nat} {A2:oAx} {a b f n K j:Nat} {us qs ws:List Nat} (d:zAo w wr g h A2 a b f n K (j+1) us qs) (hj:j<K) (hf:Fac b n f) (hg:wr.grownBy w2 (some g)) (hrow:Row .u64 w2 g 126 (us.take j++(ws++us.drop (j+(n+3)))))
  (hwl:ws.length=n+3) (hlow:Low ws) (hv:val ws=val ((us.drop j).take (n+3))%(b*f)) (hoff:Off g A2) (hoff2:Off h A2) (hgh:g≠h) (hwg:w.heap.size<g) (hwh:w.heap.size<h) (hq:val ((us.drop j).take (n+3))/(b*f)<1000000000) :
  zAo w (w2.setCell ⟨h,j,none⟩ (.int .u64 ((val ((us.drop j).take (n+3))/(b*f):Nat):Int))) g h A2 a b f n K j (us.take j++(ws++us.drop (j+(n+3)))) (qs.set j (val ((us.drop j).take (n+3))/(b*f))):=by
 have hs:=hg.size;have hbs:=d.bel.size;have hul:=d.len;refine ⟨hrow.only_set _ hgh,?_,(d.low.take j).append (hlow.append (d.low.drop _)),((d.qrow.only hg (Ne.symm hgh)).set j _),by simp [d.qlen],d.qlow.set j hq,d.div.step hf d.low oMx (by rw [d.qlen];exact hj) hwl hv,?_,(d.fr.only hg oMx).only_set _ oMx,(zIq d.bel hg oMx oMx).setCell (by show w.heap.size<=h;omega) _⟩
 ·rw [List.length_append,List.length_append,List.length_take,List.length_drop,hwl];omega
 exact (d.vs.only hg hoff).only (zTx (g:=h) (World.grownBy.refl _ _) (.inl rfl) _) hoff2
theorem zMo (A A':oAx) (a b c c' n:Nat) (w:World) (ha:zAe .u64 w A (limbs a)) (hb:zAe .u64 w A' (limbs b)) (hla:(limbs a).length<=100000000) (hlb:(limbs b).length=n+2) (hab:b<=a) :
  Calls Tryz.prog 110 #[.slice A (limbs a).length c,.slice A' (limbs b).length c'] w (zFv w (a/b) (a%b)):=by
 have hlab:=zQd hab;have HC:=oH (zJu A A' a b c c' w ha hb oMx oMx);obtain ⟨x,hx,hx0⟩:∃ x:Int,x=zJk a b/\0<=x:=⟨_,rfl,by rcases Nat.lt_or_eq_of_le hab with h|h;(rw [zJm h];omega);(rw [zJl h.symm];omega)⟩;rw [<-hx] at HC;clear hx;obtain ⟨f,hf⟩:∃ f,f=1000000000/(nth (limbs b) (n+1)+1):=⟨_,rfl⟩
 have hF:Fac b n f:=by rw [hf];exact Fac.mk' hlb
 have HF:=oH hF;have HFE:=oH hf;have hf0:=hF.pos;have hf1:=hF.low;clear hF hf
 have hn:n+2<=(limbs a).length:=by omega
 obtain ⟨gb,ob,rfl,hgb,hcb⟩:=hb (by intro e;rw [e] at hlb;simp at hlb);have hbt:=hcb (n+1) oMx;have hbl:=(Low.limbs b).nth (n+1);have HB:=oH hb;have HCB:=oH hcb;clear hb hcb;rw [hlb] at HC ⊢;have HLB:=oH hlb;clear hlb hlab
 go_enter Tryz.func110,Tryz.ntmps110
 go_wp2_with fail;refine HC.mono ?_;rintro e w' ⟨rfl,m,rfl⟩;go_upto_region 7 with (fail)
 have ef:(1000000000/(↑(nth (limbs b) (n+1))+1):Int)=(f:Int):=by rw [HFE.out];simp
 rw [ef];have hrf:Row .u64 ((w.drewN m).alloc (.cells #[.int .u64 (f:Int)] 126)) w.heap.size 126 [f]:=row_one (w.drewN m) f;have hbw:Below w.heap.size w ((w.drewN m).alloc (.cells #[.int .u64 (f:Int)] 126)):=(below_drewN bRx _).alloc lRx _
 have hs1:((w.drewN m).alloc (.cells #[.int .u64 (f:Int)] 126)).heap.size=w.heap.size+1:=by simp
 generalize ((w.drewN m).alloc (.cells #[.int .u64 (f:Int)] 126))=w1 at *
 have hs1':w.heap.size+1<=w1.heap.size:=by omega
 have HRF:=oH hrf;have HA1:=oH (ha.below hbw);have HB1:=oH (HB.below hbw);have HBW:=oH hbw;clear ef hrf hbw hs1 ha HC hbt
 go_cut [9,10] (fun u v wc=>∃ (g cv:Nat) (A2:oAx),u = .slice (some ⟨g,0,none⟩) ((limbs a).length+1) ((limbs a).length+1)/\v = .slice A2 (n+2) cv/\Row .u64 wc g 126 (xGk ((limbs a).length+1))/\zAe .u64 wc A2 (limbs (b*f))/\Off g A2/\w1.heap.size<=g/\Below w1.heap.size w1 wc)
 case first =>
  obtain ⟨i0,hi,hz0,hz1,hz2⟩:=info_parts Tryz.infoU64
  have hmk:=fun W=>zYk (P:=Tryz.prog) 60 126 i0 .u64 8 Tryz.underlying60 hi hz0 hz1 hz2 ((limbs a).length+1) oMx oMx W
  rw [Int.natCast_succ] at hmk;clear hi hz0 hz1 hz2;have HMUL:=oH (fun (W:World) (hW:zAe .u64 W (some ⟨gb,ob,none⟩) (limbs b)) (hW2:zAe .u64 W (some ⟨w.heap.size,0,none⟩) (limbs f))=>zRv (some ⟨gb,ob,none⟩) (some ⟨w.heap.size,0,none⟩) b f c' 1 W hW hW2 (by rw [HLB.out];omega) (by rw [zQi hf0 hf1];simp));rw [HLB.out,HF.len2,zQi hf0 hf1,show [f].length=1 from rfl] at HMUL;have HRC:Hid (zAe .u64 w1 (some ⟨w.heap.size,0,none⟩) [f]):=HRF.cells
  have HB1':Hid (∀ o,zAe .u64 (w1.drew.alloc o) (some ⟨gb,ob,none⟩) (limbs b)):=fun o=>(HB1.drew).alloc o
  have HRC':Hid (∀ o,zAe .u64 (w1.drew.alloc o) (some ⟨w.heap.size,0,none⟩) [f]):=fun o=>(HRC.drew).alloc o
  have hwr:IntKind.i64.wrap (↑(limbs a).length+1) = ↑(limbs a).length+1:=IntWalk.i64_in _ oMx
  go_region_with (first|(go_at_call 80;refine (HMUL.out _ (by first|exact HB1.out|exact HB1'.out _) (by first|exact HRC.out|exact HRC'.out _)).mono ?_;rintro e w4 ⟨⟨v4,hv4,hn4,hb4⟩,rfl⟩))
  all_goals (try go_wp2_with fail)
  all_goals go_meet
  ·injection hv4 with hv4;subst hv4;have h1:Row .u64 (w1.alloc (.cells (rowOf .u64 (xGk ((limbs a).length+1))) 126)).drew w1.heap.size 126 (xGk ((limbs a).length+1)):=Row.new _ _ _ _;have h2:Below w1.heap.size w1 (w1.alloc (.cells (rowOf .u64 (xGk ((limbs a).length+1))) 126)).drew:=bA.drew;refine ⟨w1.heap.size,_,_,rfl,rfl,h1.below hb4 h1.lt,?_,?_,lRx,h2.trans (hb4.mono h2.size)⟩
   ·have h3:=hn4.cells
    simpa using h3
   intro b' o' e'
   injection e' with e';injection e' with e';omega
  injection hv4 with hv4;subst hv4;have h2:Below w1.heap.size w1 w4:=⟨hb4.os,hb4.tape,hb4.output,hb4.size,hb4.block⟩
  have hlt:w1.heap.size<w4.heap.size:=by
   obtain ⟨b',o',e',hlt',_⟩:=hn4.cells (by intro e;have:=HF.len2;rw [e] at this;simp at this);injection e' with e';injection e' with e';have e2:w1.heap.size=b':=e';omega
  refine ⟨w4.heap.size,_,_,rfl,rfl,Row.new _ _ _ _,(zAe.alloc hn4.cells _),?_,h2.size,h2.alloc h2.size _⟩
  intro b' o' e'
  injection e' with e';injection e' with e';omega
 case rest =>
  obtain ⟨g,cv,A2,rfl,rfl,hrow,hcv,hoff,hg1,hbc⟩:=hcut;have HROW:=oH hrow;have HCV:=oH hcv;have HBC:=oH hbc;have HAC:=oH (HA1.below hbc);have HRFC:=oH (HRF.below hbc oMx);have hbs:=hbc.size;clear hrow hcv hbc;have HM:=oH (zRv A (some ⟨w.heap.size,0,none⟩) a f c 1 wc HAC.out (by rw [zQi hf0 hf1];exact HRFC.cells) hla (by rw [zQi hf0 hf1];simp));rw [zQi hf0 hf1,show [f].length=1 from rfl] at HM;go_wp2_with fail;refine HM.mono ?_;rintro e w2 ⟨⟨v2,hv2,hn2,hb2⟩,rfl⟩;injection hv2 with hv2;subst hv2;obtain ⟨A3,c3,he3,hl3,hc3⟩:=hn2;injection he3 with he3a _ he3c;subst he3a he3c;have HC3:=oH hc3;have HB2:=oH hb2;have HRW2:=oH (HROW.below hb2 (HROW.lt));have haf:0<a*f:=Nat.mul_pos (by have:=HF.ne;omega) hf0
  have hne:limbs (a*f)≠[]:=by intro e;have:=zPx.1 e;omega
  have hle3:(limbs (a*f)).length<=(limbs a).length+1:=zQb (by
   have h1:=zQh a;have h2:a*f<1000000000^(limbs a).length*1000000000:=Nat.mul_lt_mul'' h1 hf1
   rw [Nat.pow_succ];exact h2)
  clear hc3 hb2 hl3
  go_wp2_with (with_reducible refine xGa rfl (.tmp 49) (.tmp 52) 60 60 rfl 126 Tryz.underlying60 sizeU64 .u64 g _ _ _ _ _ rfl rfl (xGk ((limbs a).length+1)) (limbs (a*f)) 126 HRW2.out HC3.out rfl hle3 (xGl _) hne ?_)
  intro w3 hrow3 hgr3
  obtain ⟨K,hK⟩:∃ K,(limbs a).length+1=K+(n+2):=⟨(limbs a).length+1-(n+2),oMx⟩
  have hK1:(limbs a).length+1<=K+(n+2):=by omega
  have hK2:K+(n+2)<=(limbs a).length+1:=by omega
  have hs3:=hgr3.size;have hs2:=HB2.size
  have hzl:(limbs (a*f)++List.drop (limbs (a*f)).length (xGk ((limbs a).length+1))).length=K+(n+2):=by rw [List.length_append,List.length_drop,xGl];omega
  have hdz:List.drop (limbs (a*f)).length (xGk ((limbs a).length+1))=xGk ((limbs a).length+1-(limbs (a*f)).length):=by simp [xGk]
  have hlz:Low (limbs (a*f)++List.drop (limbs (a*f)).length (xGk ((limbs a).length+1))):=(Low.limbs _).append ((zQr _).drop _)
  have hvz:val (limbs (a*f)++List.drop (limbs (a*f)).length (xGk ((limbs a).length+1)))=a*f:=by rw [xEa,hdz,xEs,xEf];simp
  have hdiv:=Div.start HF.out _ (xGk K) (by rw [hzl,hK]) hvz (by rw [xGl];omega) hn hlz;rw [show (limbs a).length+1-(n+2)=K by omega] at hdiv;have hgw2:g<w2.heap.size:=HRW2.lt;have hc2:=(HCV.below HB2.out).only hgr3 hoff;have hf2:=(HRFC.below HB2.out HRFC.lt).only hgr3 (show w.heap.size≠g by omega);have hb1c:Below w.heap.size w wc:=HBW.trans (HBC.mono oMx);have hb3:Below w.heap.size w w3:=zIq (hb1c.trans (HB2.mono oMx)) hgr3 oMx oMx
  have hoff2:Off w3.heap.size A2:=fun b' off' e'=>by
   obtain ⟨b2,o2,e2,hlt2,_⟩:=hc2 (by intro e;have:=HF.len2;rw [e] at this;simp at this)
   rw [e'] at e2;injection e2 with e2;injection e2 with e2;omega
  have hst:zAo w (w3.alloc (.cells (rowOf .u64 (xGk K)) 126)) g w3.heap.size A2 a b f n K K (limbs (a*f)++List.drop (limbs (a*f)).length (xGk ((limbs a).length+1))) (xGk K) :=
   ⟨hrow3.alloc _,hzl,hlz,Row.new _ _ _ _,xGl _,zQr _,hdiv,hc2.alloc _,hf2.alloc _,hb3.alloc oMx _⟩
  have HST:=oH hst
  have hg3:g<w3.heap.size:=by omega
  have hgw:w.heap.size<g:=by omega
  clear hrow3 hgr3 hzl hdz hlz hvz hdiv hc2 hf2 hb1c hb3 hst hne hK haf hle3 HB2 HRW2 HC3 HM HROW HCV HBC HAC HRFC HRF HA1 HB1 HBW HB HCB;obtain ⟨i0,hi,hz0,hz1,hz2⟩:=info_parts Tryz.infoU64
  have hmk:=fun W=>zYk (P:=Tryz.prog) 60 126 i0 .u64 8 Tryz.underlying60 hi hz0 hz1 hz2 K oMx oMx W
  rw [show ((K:Nat):Int)=((limbs a).length:Int)+1-((n:Int)+2) by omega] at hmk;clear hi hz0 hz1 hz2;go_wp2_with fail;clear hmk;obtain ⟨h4,hh4⟩:∃ h4,h4=w3.heap.size:=⟨_,rfl⟩
  go_loopw [12] (fun ix wr=>∃ (k:Nat) (us qs:List Nat),k<=K/\ix = .int .i64 ((k:Int)-1)/\zAo w wr g w3.heap.size A2 a b f n K k us qs) (fun ix _=>(intOf ix+1).toNat)
  ·exact ⟨K,_,_,lRx,rfl,HST.out⟩
  obtain ⟨k,us,qs,hk,rfl,hst⟩:=hrel;clear HST;have HST:=oH hst;clear hst
  rcases Nat.eq_zero_or_pos k with h0|h0
  ·subst h0;have hlen:=HST.len
   have hxl:(us.take (n+2)).length=n+2:=by rw [List.length_take];omega
   have hrest:=HST.div.rest HF.out HST.low oMx;have hdone:=HST.div.done hf0 HF.ne;have HT:=oH (fun (W:World) (hW:zAe .u64 W (some ⟨g,0,none⟩) (us.take (n+2)))=>xDh (some ⟨g,0,none⟩) (us.take (n+2)) ((limbs a).length+1) W hW oMx oMx);rw [hxl,hrest] at HT;have hmb:a%b*f<1000000000^(n+2):=Nat.lt_of_le_of_lt (Nat.mul_le_mul_right f (Nat.le_of_lt (Nat.mod_lt a HF.ne))) HF.fit;have hrl:=zQb hmb;have HS:=oH (fun (W:World) (hW:zAe .u64 W (some ⟨g,0,none⟩) (limbs (a%b*f)))=>zZq (some ⟨g,0,none⟩) (a%b*f) f ((limbs a).length+1) W hW oMx hf0 hf1);rw [Nat.mul_div_cancel _ hf0] at HS;have hcg:=HST.row.cells.take (n+2);have hcg2:=HST.row.cells.take (n+2);have HCG:=oH hcg
   have HTK:Hid (zAe .u64 wr (some ⟨g,0,none⟩) (limbs (a%b*f))):=by
    have:=hcg.take (xDa (us.take (n+2))).length;rw [<-xDe,hrest] at this;exact this
   have hfc:=HST.fr.cell (i:=0) sMx;rw [zSq] at hfc;have HQT:=oH (fun (W:World) (hW:Row .u64 W w3.heap.size 126 qs)=>xDi (w:=W) (wr:=W) (g:=w3.heap.size) (n:=K) (r:=a/b) (os:=qs) ⟨HST.qlen,HST.qlow,by rw [Nat.sub_self,show xGk 0=[] from rfl,List.append_nil];exact hW,bRx⟩ oMx (by rw [<-zQm HST.qlow,hdone.1]));clear hcg hcg2 hrest hdone hmb hrl hxl hlen;go_wp2_with fail
   go_region_with (first|(go_at_call 91;refine (HT.out _ (by exact HCG.out)).mono ?_;rintro e w' ⟨rfl,rfl⟩)|(go_at_call 133;refine (HS.out _ (by exact HTK.out)).mono ?_;rintro e w6 ⟨v6,rfl,hv6,hb6⟩))
   all_goals (
    have HB6:Hid (Below wr.heap.size wr w6):=⟨hb6.os,hb6.tape,hb6.output,hb6.size,hb6.block⟩;have HV6:=oH hv6;clear hb6 hv6;go_wp2_with fail;refine (HQT.out _ (HST.qrow.below HB6.out HST.qrow.lt)).mono ?_;rintro e w7 ⟨v7,rfl,hv7,rfl, -⟩;go_wp2_with fail;go_ret2
    exact ⟨v7,v6,rfl,hv7,HV6.out,HST.bel.trans (HB6.mono HST.bel.size)⟩)
  obtain ⟨j,rfl⟩:∃ j,k=j+1:=⟨k-1,oMx⟩
  have hjk:j<K:=by omega
  have hcell:=HST.qrow.cell (i:=j) (by rw [HST.qlen];omega);have hfro:=HST.qrow.frozen j;obtain ⟨hw1,hw2⟩:=HST.div.win HF.out HST.low (by have:=HST.len;omega)
  have hwl:((us.drop j).take (n+3)).length=n+3:=by have:=HST.len;rw [List.length_take,List.length_drop];omega
  have hvq:val ((us.drop j).take (n+3))/(b*f)<1000000000:=Nat.div_lt_of_lt_mul (by rw [Nat.mul_comm];exact hw1);have hrowj:=HST.row;rw [split3 us j (n+3)] at hrowj;have HSTEP:=oH (step_any g j n ((limbs a).length+1-j) cv A2 (us.take j) ((us.drop j).take (n+3)) (us.drop (j+(n+3))) (limbs (b*f)) wr hrowj (by have:=HST.len;rw [List.length_take];omega) hwl HF.len2 ((HST.low.drop _).take _) (Low.limbs _) HST.vs hoff oMx (zSs HF.len2) (by rw [xEf];exact hw1));rw [xEf] at HSTEP;clear hrowj hw1 hw2 hwl hcell hfro;have HVQ:=oH hvq;clear hvq;go_wp2_with fail;rw [show j+(n+2)+1-j=n+3 by omega];refine HSTEP.mono ?_;rintro e w5 ⟨ws,rfl,hrw5,hl5,hlow5,hv5,hg5⟩;have hcell:=(HST.qrow.only hg5 oMx).cell (i:=j) (by rw [HST.qlen];omega);have hfro:=(HST.qrow.only hg5 oMx).frozen j;have hst2:=HST.step hjk HF.out hg5 hrw5 hl5 hlow5 hv5 hoff hoff2 oMx oMx oMx HVQ.out;have HST2:=oH hst2;clear hst2 hrw5 hl5 hlow5 hv5 hg5
  go_wp2_with fail;go_roundw
  ·exact ⟨j,_,_,oMx,by go_num,HST2.out⟩
  simp [intOf]
theorem zMn (A A':oAx) (a b c c':Nat) (w:World) (ha:zAe .u64 w A (limbs a)) (hb:zAe .u64 w A' (limbs b)) (hla:(limbs a).length<=100000000) (hlb:(limbs b).length<=100000000) (hc:(limbs a).length<=c) (hb0:0<b) :
  Calls Tryz.prog 110 #[.slice A (limbs a).length c,.slice A' (limbs b).length c'] w (zFv w (a/b) (a%b)):=by
 rcases Nat.lt_or_ge a b with h|h
 ·exact zMp A A' a b c c' w ha hb hla hlb hc h
 have h1:=zQg.2 (show b≠0 by omega)
 by_cases h2:(limbs b).length=1
 ·exact zMq A A' a b c c' w ha hb hla h2 h
 exact zMo A A' a b c c' ((limbs b).length-2) w ha hb hla oMx h
theorem zQl {n:Nat} (h:(limbs n).length<=2):nth (limbs n) 1*1000000000+nth (limbs n) 0=n/\n<1000000000000000000:=by
 have h1:=zQh n;have h2:=zVg h;have h3:=xEf n;have e1:val ((limbs n).drop 1)=nth (limbs n) 1+1000000000*val ((limbs n).drop 2):=xEd (limbs n) 1;have e0:val ((limbs n).drop 0)=nth (limbs n) 0+1000000000*val ((limbs n).drop 1):=xEd (limbs n) 0;have e2:(limbs n).drop 2=[]:=List.drop_eq_nil_of_le h;rw [e2,xEi] at e1;rw [List.drop_zero,h3] at e0;exact ⟨oMx,by rw [show (1000000000:Nat)^2=1000000000000000000 from rfl] at h2;omega⟩
theorem zZz (A:oAx) (n c:Nat) (w:World) (hx:zAe .u64 w A (limbs n)) (hl:(limbs n).length<=2) :
  Calls Tryz.prog 137 #[.slice A (limbs n).length c] w fun e w'=>e = .returned (.int .u64 (n:Int))/\w=w':=by
 have h2:=zQl hl;have b0:=(Low.limbs n).nth 0;have b1:=(Low.limbs n).nth 1;have H2:=oH h2.1;have H0:=oH (zHz A (limbs n) c 0 w hx oMx oMx);have H1:=oH (zHz A (limbs n) c 1 w hx oMx oMx);clear h2
 go_enter Tryz.func137,Tryz.ntmps137
 go_wp2_with fail;refine H1.mono ?_;rintro e w' ⟨rfl,rfl⟩;go_wp2_with fail;refine H0.mono ?_;rintro e w' ⟨rfl,rfl⟩;go_wp2_with fail;go_ret
 exact ⟨zWh (by have:=H2.out;omega),rfl⟩
def Two (w wr:World) (s0 s1:Value) (p q:Nat):Prop:=∃ (A A':oAx) (c c':Nat),s0 = .slice A (limbs p).length c/\s1 = .slice A' (limbs q).length c'/\(limbs p).length<=c/\(limbs q).length<=c'/\zAe .u64 wr A (limbs p)/\zAe .u64 wr A' (limbs q)/\Below w.heap.size w wr
theorem xDm {x:Nat} (h:x<1000000000000000000):xDa [x%1000000000,x/1000000000]=limbs x:=by
 have hl:Low [x%1000000000,x/1000000000]:=Low.cons oMx (Low.cons oMx Low.nil);rw [<-zQm hl]
 congr 1
 simp [val]
 omega
theorem row_two (w:World) (x y:Nat):Row .u64 (w.alloc (.cells #[.int .u64 (x:Int),.int .u64 (y:Int)] 126)) w.heap.size 126 [x,y]:=Row.new .u64 w 126 [x,y]
theorem gcd_any (A A':oAx) (a b c c':Nat) (w:World) (ha:zAe .u64 w A (limbs a)) (hb:zAe .u64 w A' (limbs b)) (hla:(limbs a).length<=100000000) (hlb:(limbs b).length<=100000000) (hc:(limbs a).length<=c) (hc':(limbs b).length<=c') :
  Calls Tryz.prog 114 #[.slice A (limbs a).length c,.slice A' (limbs b).length c'] w (zFu w (Nat.gcd a b)):=by
 have H0:Hid (Two w w (.slice A (limbs a).length c) (.slice A' (limbs b).length c') a b):=⟨_,_,_,_,rfl,rfl,hc,hc',ha,hb,bRx⟩;clear ha hb hc hc'
 go_enter Tryz.func114,Tryz.ntmps114
 go_wp2_with fail
 go_loopg [0,1] b (fun k s0 s1 wr=>∃ x:Nat,Two w wr s0 s1 x k/\(limbs x).length<=100000000/\(limbs k).length<=100000000/\Nat.gcd x k=Nat.gcd a b)
 ·exact ⟨a,H0.out,hla,hlb,rfl⟩
 obtain ⟨x,⟨A1,A2,c1,c2,rfl,rfl,h1,h2,h3,h4,h5⟩,hlx,hlk,hg⟩:=hrel;have HG:=oH hg;have H3:=oH h3;have H4:=oH h4;have H5:=oH h5;clear hg h3 h4 h5 H0
 by_cases hk2:2<(limbs gk).length
 ·have hk0:0<gk:=by rcases Nat.eq_zero_or_pos gk with e|e;(subst e;rw [zQo] at hk2;simp at hk2);exact e
  have HD:=oH (zMn A1 A2 x gk c1 c2 wr H3.out H4.out hlx hlk h1 hk0);go_wp2_with fail;refine HD.mono ?_;rintro e w2 ⟨v,u,rfl,hv,hu,hb2⟩;obtain ⟨A3,c3,rfl,hl3,hc3⟩:=hu;have hm:=Nat.mod_lt x hk0;have HC3:=oH hc3;have HB2:=oH hb2;clear hv hc3 hb2;go_wp2_with fail
  go_roundg (x%gk)
  case measure=>exact hm
  case rel=>exact ⟨gk,⟨_,_,_,_,rfl,rfl,h2,hl3,H4.below HB2.out,HC3.out,H5.trans (HB2.mono H5.size)⟩,hlk,Nat.le_trans (zQd (Nat.le_of_lt hm)) hlk,by rw [<-HG.out,Nat.gcd_comm gk,<-Nat.gcd_rec,Nat.gcd_comm]⟩
 rcases Nat.eq_zero_or_pos gk with h0|h0
 ·subst h0;have E:=oH (show x=Nat.gcd a b by rw [<-HG.out,Nat.gcd_zero_right])
  have hz:(limbs 0).length<=0:=by rw [zQo];simp
  have hz':(((limbs 0).length:Int)==0)=true:=by rw [zQo];simp
  go_wp2_with fail;go_ret
  exact ⟨_,rfl,by rw [<-E.out];exact zBr.mk h1 H3.out,H5.out⟩
 have hp:0<(limbs gk).length:=zQg.2 oMx
 have hz':(((limbs gk).length:Int)==0)=false:=by rw [beq_eq_false_iff_ne];omega
 have HD:=oH (zMn A1 A2 x gk c1 c2 wr H3.out H4.out hlx hlk h1 h0)
 go_upto_if 28 with (fail)
 go_cut [0,1] (fun s0 s1 wc=>∃ (p q:Nat),Two w wc s0 s1 p q/\(limbs p).length<=2/\(limbs q).length<=2/\Nat.gcd p q=Nat.gcd a b)
 case first =>
  by_cases hx2:2<(limbs x).length
  ·go_wp2_with fail;refine HD.mono ?_;rintro e w2 ⟨v,u,rfl,hv,hu,hb2⟩;obtain ⟨A3,c3,rfl,hl3,hc3⟩:=hu;have hm:=Nat.mod_lt x h0;have HC3:=oH hc3;have HB2:=oH hb2;clear hv hc3 hb2;go_wp2_with fail
   go_meet
   case rel=>exact ⟨gk,x%gk,⟨_,_,_,_,rfl,rfl,h2,hl3,H4.below HB2.out,HC3.out,H5.trans (HB2.mono H5.size)⟩,oMx,Nat.le_trans (zQd (Nat.le_of_lt hm)) oMx,by rw [<-HG.out,Nat.gcd_comm gk,<-Nat.gcd_rec,Nat.gcd_comm]⟩
  go_wp2_with fail
  go_meet
  case rel=>exact ⟨x,gk,⟨_,_,_,_,rfl,rfl,h1,h2,H3.out,H4.out,H5.out⟩,oMx,oMx,HG.out⟩
 case rest =>
  clear H3 H4 H5 HG HD hk2 hz' hp h0;obtain ⟨p,q,⟨A3,A4,c3,c4,rfl,rfl,h3,h4,h5,h6,h7⟩,hp2,hq2,hg⟩:=hcut;have HG:=oH hg;have H7:=oH h7;have HS1:=oH (zZz A3 p c3 wc h5 hp2);have HS2:=oH (zZz A4 q c4 wc h6 hq2);have hpB:=(zQl hp2).2;have hqB:=(zQl hq2).2;clear hg h5 h6 h7;go_wp2_with fail;refine HS1.mono ?_;rintro e w' ⟨rfl,rfl⟩;go_wp2_with fail;refine HS2.mono ?_;rintro e w' ⟨rfl,rfl⟩;go_wp2_with fail
  go_loopw [9,10] (fun s t wr=>∃ (x y m:Nat),s = .int .u64 (x:Int)/\t = .int .u64 (y:Int)/\x<1000000000000000000/\y<1000000000000000000/\Nat.gcd x y=Nat.gcd a b/\wr=wc.drewN m) (fun _ t _=>(intOf t).toNat)
  ·exact ⟨p,q,0,rfl,rfl,hpB,hqB,HG.out,rfl⟩
  obtain ⟨x,y,m,rfl,rfl,hx,hy,hg,rfl⟩:=hrel;clear HG;have HG:=oH hg;clear hg
  rcases Nat.eq_zero_or_pos y with h0|h0
  ·subst h0;have HE:=oH (show x=Nat.gcd a b by rw [<-HG.out,Nat.gcd_zero_right]);have hr2:=row_two (wc.drewN m) (x%1000000000) (x/1000000000);have HTR:=oH (xDi (w:=wc.drewN m) (n:=2) (r:=x) ⟨rfl,Low.cons oMx (Low.cons oMx Low.nil),by rw [Nat.sub_self,show xGk 0=[] from rfl,List.append_nil];exact hr2,bA⟩ oMx (xDm hx));clear hr2;go_wp2_with fail
   have e1:(x:Int)%1000000000=((x%1000000000:Nat):Int):=by omega
   have e2:(x:Int)/1000000000=((x/1000000000:Nat):Int):=by omega
   rw [e1,e2];refine HTR.mono ?_;rintro e w9 ⟨v,rfl,hv,rfl, -⟩;clear e1 e2;go_wp2_with fail;go_ret
   exact ⟨_,rfl,by rw [<-HE.out];exact hv,(below_drewN H7.out m).alloc H7.size _⟩
  have hy':((y:Int) != 0)=true:=by simp;omega
  have hmm:=Nat.mod_lt x h0;go_wp2_with fail
  go_quiet (fail)
  go_wp2_with fail;go_roundw
  ·exact ⟨y,x%y,_,rfl,by simp,hy,oMx,by rw [<-HG.out,Nat.gcd_comm y,<-Nat.gcd_rec,Nat.gcd_comm],by simp only [World.drewN_drewN];rfl⟩
  simp [intOf];omega
def zBs (w:World) (v:Value) (z:Int):Prop:=∃ s,v = .agg #[.bool (decide (z<0)),s]/\zBr w s z.natAbs
theorem zBs.below {w w':World} {v:Value} {z:Int} (h:zBs w v z) (hb:Below w.heap.size w w'):zBs w' v z:=by
 obtain ⟨s,e,hs⟩:=h;exact ⟨s,e,hs.below hb⟩
def zFw (w:World) (z:Int) (e:Ending) (w':World):Prop:=∃ v,e = .returned v/\zBs w' v z/\Below w.heap.size w w'
theorem zTa (ng:Bool) (A:oAx) (l c:Nat) (w:World) (hl:l<=1000000000) :
  Calls Tryz.prog 79 #[.bool ng,.slice A l c] w fun e w'=>e = .returned (.agg #[.bool (ng&&decide (0<l)),.slice A l c])/\Below w.heap.size w w':=by
 cases ng
 ·go_enter Tryz.func79,Tryz.ntmps79
  go_wp2_with fail;exact bodyPost_ret (v := .agg #[.bool false,.slice A l c]) (by simp [results,Tryz.results79,go_sem]) rfl ⟨rfl,(bA)⟩
 by_cases h:0<l
 ·have h':decide (0<(l:Int))=true:=by simp;omega
  go_enter Tryz.func79,Tryz.ntmps79
  go_wp2_with fail;exact bodyPost_ret (v := .agg #[.bool true,.slice A l c]) (by simp [results,Tryz.results79,go_sem]) rfl ⟨by simp [h],(bA)⟩
 have h':decide (0<(l:Int))=false:=by simp;omega
 go_enter Tryz.func79,Tryz.ntmps79
 go_wp2_with fail;exact bodyPost_ret (v := .agg #[.bool false,.slice A l c]) (by simp [results,Tryz.results79,go_sem]) rfl ⟨by simp [h],(bA)⟩
def sgn (ng:Bool) (n:Nat):Int:=if ng then -(n:Int) else (n:Int)
theorem sgn_neg (ng:Bool) (n:Nat):decide (sgn ng n<0)=(ng&&decide (0<(limbs n).length)):=by
 have h:0<(limbs n).length↔n≠0:=zQg
 cases ng
 ·simp [sgn]
 simp only [sgn,if_true,Bool.true_and]
 rw [decide_eq_decide,h];omega
theorem zZj (ng:Bool) (n:Nat):(sgn ng n).natAbs=n:=by cases ng<;>simp [sgn]
theorem zZk (z:Int):sgn (decide (z<0)) z.natAbs=z:=by
 unfold sgn
 by_cases h:z<0<;>simp [h]<;>omega
theorem zOt {w:World} {s:Value} {ng:Bool} {n:Nat} (h:zBr w s n):zBs w (.agg #[.bool (ng&&decide (0<(limbs n).length)),s]) (sgn ng n) :=
 ⟨s,by rw [sgn_neg],by rw [zZj];exact h⟩
theorem zTb (ng:Bool) (v:Value) (n:Nat) (w:World) (h:zBr w v n) (hl:(limbs n).length<=1000000000):Calls Tryz.prog 79 #[.bool ng,v] w (zFw w (sgn ng n)):=by
 obtain ⟨A,c,rfl,hlc,hc⟩:=h;refine (zTa ng A (limbs n).length c w hl).mono ?_;rintro e w' ⟨rfl,hb⟩;exact ⟨_,rfl,zOt (zBr.mk hlc (hc.below hb)),hb⟩
structure zAa (w W:World) (n0 n1:Bool) (s0 s1:Value):Prop where
 a0:W.cell? ⟨w.heap.size,0,none⟩=some (.bool n0)
 a1:W.cell? ⟨w.heap.size,1,none⟩=some s0
 b0:W.cell? ⟨w.heap.size+1,0,none⟩=some (.bool n1)
 b1:W.cell? ⟨w.heap.size+1,1,none⟩=some s1
 rb:W.heap[w.heap.size+1+1]? = some (.cells #[.bool false,.slice none 0 0] 62 (0,0))
 r0:W.cell? ⟨w.heap.size+1+1,0,none⟩=some (.bool false)
 r1:W.cell? ⟨w.heap.size+1+1,1,none⟩=some (.slice none 0 0)
 f0:W.frozen? ⟨w.heap.size+1+1,0,none⟩=false
 f1:W.frozen? ⟨w.heap.size+1+1,1,none⟩=false
 bel:Below w.heap.size w W
 size:w.heap.size+3<=W.heap.size
theorem zQe (a b:Nat):(limbs (a*b)).length<=(limbs a).length+(limbs b).length:=by
 apply zQb
 rw [Nat.pow_add];exact Nat.mul_lt_mul'' (zQh a) (zQh b)
theorem zQa (a b:Nat):(limbs (a+b)).length<=max (limbs a).length (limbs b).length+1:=by
 apply zQb
 have h1:=Nat.lt_of_lt_of_le (zQh a) (zVg (Nat.le_max_left (limbs a).length (limbs b).length));have h2:=Nat.lt_of_lt_of_le (zQh b) (zVg (Nat.le_max_right (limbs a).length (limbs b).length));rw [Nat.pow_succ];generalize 1000000000^max (limbs a).length (limbs b).length=P at *;omega
theorem sgn_mul (x y:Int):sgn (decide (x<0) != decide (y<0)) (x.natAbs*y.natAbs)=x*y:=by
 have hx:=zZk x;have hy:=zZk y;generalize decide (x<0)=a at *;generalize decide (y<0)=b at *;rw [<-hx,<-hy];simp only [zZj]
 cases a<;>cases b<;>simp [sgn,Int.natCast_mul,Int.neg_mul,Int.mul_neg]
theorem boxes (w:World) (n0 n1:Bool) (s0 s1:Value):zAa w (((w.alloc (.cells #[.bool n0,s0] 62)).alloc (.cells #[.bool n1,s1] 62)).alloc (.cells #[.bool false,.slice none 0 0] 62)) n0 n1 s0 s1:=by
 have e1:(((w.alloc (.cells #[.bool n0,s0] 62)).alloc (.cells #[.bool n1,s1] 62)).alloc (.cells #[.bool false,.slice none 0 0] 62)).heap[w.heap.size]? = some (.cells #[.bool n0,s0] 62 (0,0)):=by
  rw [Below.heap_alloc _ _ _ (by simp;omega),Below.heap_alloc _ _ _ sMx];exact heap_alloc_new w _
 have e2:(((w.alloc (.cells #[.bool n0,s0] 62)).alloc (.cells #[.bool n1,s1] 62)).alloc (.cells #[.bool false,.slice none 0 0] 62)).heap[w.heap.size+1]? = some (.cells #[.bool n1,s1] 62 (0,0)):=by
  rw [Below.heap_alloc _ _ _ sMx];have:=heap_alloc_new (w.alloc (.cells #[.bool n0,s0] 62)) (.cells #[.bool n1,s1] 62)
  simpa using this
 have e3:(((w.alloc (.cells #[.bool n0,s0] 62)).alloc (.cells #[.bool n1,s1] 62)).alloc (.cells #[.bool false,.slice none 0 0] 62)).heap[w.heap.size+1+1]? = some (.cells #[.bool false,.slice none 0 0] 62 (0,0)):=by
  have:=heap_alloc_new ((w.alloc (.cells #[.bool n0,s0] 62)).alloc (.cells #[.bool n1,s1] 62)) (.cells #[.bool false,.slice none 0 0] 62)
  simpa using this
 exact ⟨cell_of_row _ _ 0 _ _ (0,0) e1,cell_of_row _ _ 1 _ _ (0,0) e1,cell_of_row _ _ 0 _ _ (0,0) e2,cell_of_row _ _ 1 _ _ (0,0) e2,e3,cell_of_row _ _ 0 _ _ (0,0) e3,cell_of_row _ _ 1 _ _ (0,0) e3,
  frozen_of_row _ _ 0 _ _ e3,frozen_of_row _ _ 1 _ _ e3,(((bA).alloc sMx _).alloc (by simp;omega) _),by simp⟩
theorem zAa.below {w W W':World} {n0 n1:Bool} {s0 s1:Value} (h:zAa w W n0 n1 s0 s1) (hb:Below W.heap.size W W'):zAa w W' n0 n1 s0 s1:=by
 have hs:=h.size;have hs':=hb.size;refine ⟨?_,?_,?_,?_,(hb.block _ oMx).trans h.rb,?_,?_,?_,?_,h.bel.trans (hb.mono oMx),oMx⟩
 ·rw [hb.cell (show (⟨w.heap.size,0,none⟩:Addr).block<_ by show w.heap.size<_;omega)];exact h.a0
 ·rw [hb.cell (show (⟨w.heap.size,1,none⟩:Addr).block<_ by show w.heap.size<_;omega)];exact h.a1
 ·rw [hb.cell (show (⟨w.heap.size+1,0,none⟩:Addr).block<_ by show w.heap.size+1<_;omega)];exact h.b0
 ·rw [hb.cell (show (⟨w.heap.size+1,1,none⟩:Addr).block<_ by show w.heap.size+1<_;omega)];exact h.b1
 ·rw [hb.cell (show (⟨w.heap.size+1+1,0,none⟩:Addr).block<_ by show w.heap.size+1+1<_;omega)];exact h.r0
 ·rw [hb.cell (show (⟨w.heap.size+1+1,1,none⟩:Addr).block<_ by show w.heap.size+1+1<_;omega)];exact h.r1
 ·rw [hb.frozen (show (⟨w.heap.size+1+1,0,none⟩:Addr).block<_ by show w.heap.size+1+1<_;omega)];exact h.f0
 rw [hb.frozen (show (⟨w.heap.size+1+1,1,none⟩:Addr).block<_ by show w.heap.size+1+1<_;omega)];exact h.f1
theorem zAa.drew {w W:World} {n0 n1:Bool} {s0 s1:Value} (h:zAa w W n0 n1 s0 s1):zAa w W.drew n0 n1 s0 s1:=⟨h.a0,h.a1,h.b0,h.b1,h.rb,h.r0,h.r1,h.f0,h.f1,h.bel.drew,h.size⟩
theorem zAe.store2 {w:World} {A:oAx} {xs:List Nat} {g:Nat} {b:Bool} {A0:oAx} {l0 c0:Nat} {t:TypeId} (h:zAe .u64 w A xs) (hg:w.heap[g]? = some (.cells #[.bool b,.slice A0 l0 c0] t (0,0))) (u v:Value) :
  zAe .u64 ((w.setCell ⟨g,0,none⟩ u).setCell ⟨g,1,none⟩ v) A xs:=by
 by_cases hne:xs=[]
 ·subst hne;exact zAe.nil _ _ _
 have ho:Off g A:=by
  intro b' off' e
  obtain ⟨b2,o2,e2,hlt,hc⟩:=h hne
  rw [e] at e2;injection e2 with e2;injection e2 with e2 e3
  subst e2 e3;rintro rfl;have h1:=hc 0 (by rcases xs with _|⟨x,xs⟩;exact absurd rfl hne;simp);rw [Nat.add_zero,cell_of_row _ _ _ _ _ _ hg] at h1
  rcases off' with _|_|off'
  ·simp at h1
  ·simp at h1
  simp at h1
 have h1:w.grownBy (w.setCell ⟨g,0,none⟩ u) (some g):=zTx (p:=⟨g,0,none⟩) (World.grownBy.refl w (some g)) (.inl rfl) u;have h2:w.grownBy ((w.setCell ⟨g,0,none⟩ u).setCell ⟨g,1,none⟩ v) (some g):=zTx (p:=⟨g,1,none⟩) h1 (.inl rfl) v;exact h.only h2 ho
theorem cell_far {w:World} {p q:Addr} (u:Value) (h:q.block≠p.block):(w.setCell p u).cell? q=w.cell? q:=World.cell?_of_block (w:=w) (Below.heap_setCell w p u q.block h)
def Four (w W:World) (n0 n1:Bool) (s0 s1:Value):Prop:=W.cell? ⟨w.heap.size,0,none⟩=some (.bool n0)/\W.cell? ⟨w.heap.size,1,none⟩=some s0/\W.cell? ⟨w.heap.size+1,0,none⟩=some (.bool n1)/\W.cell? ⟨w.heap.size+1,1,none⟩=some s1
theorem zAa.four {w W:World} {n0 n1:Bool} {s0 s1:Value} (h:zAa w W n0 n1 s0 s1):Four w W n0 n1 s0 s1:=⟨h.a0,h.a1,h.b0,h.b1⟩
theorem zAa.four_store {w W:World} {n0 n1:Bool} {s0 s1:Value} (h:zAa w W n0 n1 s0 s1) (x y:Value):Four w ((W.setCell ⟨w.heap.size+1+1,0,none⟩ x).setCell ⟨w.heap.size+1+1,1,none⟩ y) n0 n1 s0 s1:=by
 refine ⟨?_,?_,?_,?_⟩
 ·rw [cell_far _ (by show w.heap.size≠w.heap.size+1+1;omega),cell_far _ (by show w.heap.size≠w.heap.size+1+1;omega)];exact h.a0
 ·rw [cell_far _ (by show w.heap.size≠w.heap.size+1+1;omega),cell_far _ (by show w.heap.size≠w.heap.size+1+1;omega)];exact h.a1
 ·rw [cell_far _ (by show w.heap.size+1≠w.heap.size+1+1;omega),cell_far _ (by show w.heap.size+1≠w.heap.size+1+1;omega)];exact h.b0
 rw [cell_far _ (by show w.heap.size+1≠w.heap.size+1+1;omega),cell_far _ (by show w.heap.size+1≠w.heap.size+1+1;omega)];exact h.b1
theorem zCl (u v:Value) (x y:Int) (w:World) (hx:zBs w u x) (hy:zBs w v y) (hlx:(limbs x.natAbs).length<=100000000) (hly:(limbs y.natAbs).length<=100000000) :
  Calls Tryz.prog 37 #[u,v] w (zFw w (x*y)):=by
 obtain ⟨_,rfl,A,c,rfl,hlc,hc⟩:=hx;obtain ⟨_,rfl,A',c',rfl,hlc',hc'⟩:=hy;have HC:=oH hc;have HC':=oH hc';generalize hna:decide (x<0)=na at *;generalize hnb:decide (y<0)=nb at *;have HNA:=oH hna;have HNB:=oH hnb;clear hc hc' hna hnb
 go_enter Tryz.func37,Tryz.ntmps37
 go_wp2_with fail;have hbx:=boxes w na nb (.slice A (limbs x.natAbs).length c) (.slice A' (limbs y.natAbs).length c');generalize ((w.alloc (.cells #[.bool na,.slice A (limbs x.natAbs).length c] 62)).alloc (.cells #[.bool nb,.slice A' (limbs y.natAbs).length c'] 62)).alloc (.cells #[.bool false,.slice none 0 0] 62)=W at *;have HBX:=oH hbx;have ha0:=hbx.a0;have ha1:=hbx.a1;have hb0:=hbx.b0;have hb1:=hbx.b1;have HM:=oH (fun (V:World) (hV:Below w.heap.size w V)=>mul_any A A' x.natAbs y.natAbs c c' V (HC.below hV) (HC'.below hV) hlx hly);clear hbx
 go_region_held3 (fun w'=>w'.cell? ⟨w.heap.size,0,none⟩=some (.bool na)/\w'.cell? ⟨w.heap.size,1,none⟩=some (.slice A (limbs x.natAbs).length c)/\w'.cell? ⟨w.heap.size+1,0,none⟩=some (.bool nb)/\w'.cell? ⟨w.heap.size+1,1,none⟩=some (.slice A' (limbs y.natAbs).length c'))
  (first|exact HBX3.four_store _ _|exact HBX3.four|exact HBX2.four|go_keep)
  (first|(go_at_call 80;refine (HM.out _ (by exact HBX.drew.bel)).mono ?_;rintro e w2 ⟨v2,rfl,hv2,hb2⟩;have HBX2:=oH (HBX.drew.below hb2);have HV2:=oH hv2;clear hv2 hb2)|(go_at_call 79;refine (zTb _ _ _ _ HV2.out (Nat.le_trans (zQe _ _) oMx)).mono ?_;rintro e w3 ⟨v3,rfl,hv3,hb3⟩;have HBX3:=oH (HBX2.below hb3);obtain ⟨_,rfl,A3,c3,rfl,hl3,hs3⟩:=hv3;have HS3:=oH hs3;have HB3:=oH hb3;have hr0:=HBX3.r0;have hr1:=HBX3.r1;have hf0:=HBX3.f0;have hf1:=HBX3.f1;clear hb3 hs3))
 go_wp2_with fail;have HBX4:=HBX3.out;refine bodyPost_ret (v := .agg #[.bool (decide (sgn (!na==nb) (x.natAbs*y.natAbs)<0)),.slice A3 (limbs (sgn (!na==nb) (x.natAbs*y.natAbs)).natAbs).length c3]) (by simp [results,Tryz.results37,go_sem,hr0,hr1]) rfl ?_
 have e:sgn (!na==nb) (x.natAbs*y.natAbs)=x*y:=by rw [<-HNA.out,<-HNB.out];exact sgn_mul x y
 rw [e];have hb4:=(HBX4.bel.setCell (p:=⟨w.heap.size+1+1,0,none⟩) (by show w.heap.size<=w.heap.size+1+1;omega) (.bool (decide (x*y<0)))).setCell (p:=⟨w.heap.size+1+1,1,none⟩) (by show w.heap.size<=w.heap.size+1+1;omega) (.slice A3 (limbs (x*y).natAbs).length c3);exact ⟨_,rfl,⟨_,rfl,zBr.mk (by rw [<-e];exact hl3) ((by rw [<-e];exact HS3.out:zAe .u64 w3 A3 (limbs (x*y).natAbs)).store2 HBX4.rb _ _)⟩,hb4⟩
structure Res (W:World) (g:Nat):Prop where
 rb:W.heap[g]? = some (.cells #[.bool false,.slice none 0 0] 62 (0,0))
theorem Res.r0 {W:World} {g:Nat} (h:Res W g):W.cell? ⟨g,0,none⟩=some (.bool false):=cell_of_row _ _ 0 _ _ (0,0) h.rb
theorem Res.r1 {W:World} {g:Nat} (h:Res W g):W.cell? ⟨g,1,none⟩=some (.slice none 0 0):=cell_of_row _ _ 1 _ _ (0,0) h.rb
theorem Res.f (i:Nat) {W:World} {g:Nat} (h:Res W g):W.frozen? ⟨g,i,none⟩=false:=frozen_of_row _ _ i _ _ h.rb
theorem Res.lt {W:World} {g:Nat} (h:Res W g):g<W.heap.size:=by
 rcases Nat.lt_or_ge g W.heap.size with hlt|hge
 ·exact hlt
 have:=h.rb;rw [Array.getElem?_eq_none hge] at this;cases this
theorem Res.below {W W':World} {g:Nat} (h:Res W g) (hb:Below W.heap.size W W'):Res W' g:=⟨(hb.block g h.lt).trans h.rb⟩
theorem Res.new (W:World):Res (W.alloc (.cells #[.bool false,.slice none 0 0] 62)) W.heap.size:=⟨heap_alloc_new W _⟩
theorem Res.end_ {w W:World} {g:Nat} {A:oAx} {c:Nat} {x y:Int} (h:Res W g) (hb:Below w.heap.size w W) (hg:w.heap.size<=g) (hc:zAe .u64 W A (limbs x.natAbs)) (hl:(limbs x.natAbs).length<=c) (e:x=y) :
  zFw w y (.returned (.agg #[.bool (decide (x<0)),.slice A (limbs x.natAbs).length c])) ((W.setCell ⟨g,0,none⟩ (.bool (decide (x<0)))).setCell ⟨g,1,none⟩ (.slice A (limbs x.natAbs).length c)):=by
 subst e;exact ⟨_,rfl,⟨_,rfl,zBr.mk hl (hc.store2 h.rb _ _)⟩,(hb.setCell (p:=⟨g,0,none⟩) hg _).setCell (p:=⟨g,1,none⟩) hg _⟩
theorem zFw.num {w w':World} {z:Int} {e:Ending} (h:zFw w z e w'):∃ (A:oAx) (c:Nat),e = .returned (.agg #[.bool (decide (z<0)),.slice A (limbs z.natAbs).length c])/\(limbs z.natAbs).length<=c/\zAe .u64 w' A (limbs z.natAbs)/\Below w.heap.size w w':=by
 obtain ⟨v,rfl,⟨s,rfl,A,c,rfl,hl,hc⟩,hb⟩:=h;exact ⟨A,c,rfl,hl,hc,hb⟩
theorem zCo (u:Value) (x:Int) (w:World) (hx:zBs w u x) (hlx:(limbs x.natAbs).length<=1000000000) :
  Calls Tryz.prog 52 #[u] w (zFw w (-x)):=by
 obtain ⟨_,rfl,A,c,rfl,hlc,hc⟩:=hx;have HC:=oH hc;generalize hna:decide (x<0)=na at *;have HNA:=oH hna;clear hc hna
 go_enter Tryz.func52,Tryz.ntmps52
 go_wp2_with fail;have hr:=Res.new (w.alloc (.cells #[.bool na,.slice A (limbs x.natAbs).length c] 62));have hb:Below w.heap.size w ((w.alloc (.cells #[.bool na,.slice A (limbs x.natAbs).length c] 62)).alloc (.cells #[.bool false,.slice none 0 0] 62)):=(bA).alloc sMx _;rw [World.size_alloc] at hr;generalize (w.alloc (.cells #[.bool na,.slice A (limbs x.natAbs).length c] 62)).alloc (.cells #[.bool false,.slice none 0 0] 62)=W at *;have HR:=oH hr;have HB:=oH hb;clear hr hb;refine (zTb (!na) _ x.natAbs _ (zBr.mk hlc (HC.below HB.out)) hlx).mono ?_
 intro e w2 hret
 obtain ⟨A3,c3,rfl,hl3,hc3,hb3⟩:=hret.num;have HC3:=oH hc3;have HB3:=oH hb3;have HR3:=oH (HR.below hb3);have hr0:=HR3.r0;have hr1:=HR3.r1;have hf0:=HR3.f 0;have hf1:=HR3.f 1;clear hret hc3 hb3;go_wp2_with fail;refine bodyPost_ret (v := .agg #[.bool (decide (sgn (!na) x.natAbs<0)),.slice A3 (limbs (sgn (!na) x.natAbs).natAbs).length c3]) (by simp [results,Tryz.results52,go_sem,hr0,hr1]) rfl ?_;refine HR3.end_ (HB.trans (HB3.mono HB.size)) oMx HC3.out hl3 ?_;rw [<-HNA.out];unfold sgn
 by_cases h:x<0<;>simp [h]<;>omega
theorem zBg (u v:Value) (x y:Int) (w:World) (hx:zBs w u x) (hy:zBs w v y) (hlx:(limbs x.natAbs).length<=100000000) (hly:(limbs y.natAbs).length<=100000000) :
  Calls Tryz.prog 77 #[u,v] w (zFw w (Nat.gcd x.natAbs y.natAbs:Nat)):=by
 obtain ⟨_,rfl,A,c,rfl,hlc,hc⟩:=hx;obtain ⟨_,rfl,A',c',rfl,hlc',hc'⟩:=hy;have HC:=oH hc;have HC':=oH hc';generalize decide (x<0)=na at *;generalize decide (y<0)=nb at *;clear hc hc'
 go_enter Tryz.func77,Tryz.ntmps77
 go_wp2_with fail;have hbx:=boxes w na nb (.slice A (limbs x.natAbs).length c) (.slice A' (limbs y.natAbs).length c');generalize ((w.alloc (.cells #[.bool na,.slice A (limbs x.natAbs).length c] 62)).alloc (.cells #[.bool nb,.slice A' (limbs y.natAbs).length c'] 62)).alloc (.cells #[.bool false,.slice none 0 0] 62)=W at *;have HBX:=oH hbx;clear hbx;refine (gcd_any A A' x.natAbs y.natAbs c c' W (HC.below HBX.bel) (HC'.below HBX.bel) hlx hly hlc hlc').mono ?_;rintro e w2 ⟨v2,rfl,hv2,hb2⟩;have HV2:=oH hv2;have HB2:=oH hb2;clear hv2 hb2;go_wp2_with fail
 have hgl:(limbs (Nat.gcd x.natAbs y.natAbs)).length<=100000000:=by
  rcases Nat.eq_zero_or_pos x.natAbs with e|e
  ·rw [e,Nat.gcd_zero_left];exact hly
  exact Nat.le_trans (zQd (Nat.gcd_le_left _ e)) hlx
 refine (zTb false v2 (Nat.gcd x.natAbs y.natAbs) w2 HV2.out oMx).mono ?_
 intro e w3 hret
 obtain ⟨A3,c3,rfl,hl3,hc3,hb3⟩:=hret.num;have HC3:=oH hc3;have HBX3:=oH ((HBX.below HB2.out).below hb3);have hr0:=HBX3.r0;have hr1:=HBX3.r1;have hf0:=HBX3.f0;have hf1:=HBX3.f1;clear hret hc3 hb3;go_wp2_with fail;refine bodyPost_ret (v := .agg #[.bool (decide (sgn false (Nat.gcd x.natAbs y.natAbs)<0)),.slice A3 (limbs (sgn false (Nat.gcd x.natAbs y.natAbs)).natAbs).length c3]) (by simp [results,Tryz.results77,go_sem,hr0,hr1]) rfl ?_;exact Res.end_ ⟨HBX3.rb⟩ HBX3.bel oMx HC3.out hl3 rfl
def sg (z:Int):Int:=if z<0 then -1 else if 0<z then 1 else 0
theorem zGm (u:Value) (x:Int) (w:World) (hx:zBs w u x) (_hlx:(limbs x.natAbs).length<=1000000000) :
  Calls Tryz.prog 76 #[u] w fun e w'=>e = .returned (.int .i64 (sg x))/\Below w.heap.size w w':=by
 obtain ⟨_,rfl,A,c,rfl,hlc,hc⟩:=hx;have hp:0<(limbs x.natAbs).length↔x.natAbs≠0:=zQg
 by_cases h1:x<0
 ·have E:=oH (show sg x = -1 by simp [sg,h1])
  have hd:decide (x<0)=true:=by simp [h1]
  rw [hd];clear hd hp hc
  go_enter Tryz.func76,Tryz.ntmps76
  go_wp2_with fail;go_ret
  exact ⟨by rw [E.out];rfl,bA⟩
 have hd:decide (x<0)=false:=by simp [h1]
 rw [hd]
 by_cases h2:0<x
 ·have E:=oH (show sg x=1 by simp [sg,h1,h2]);have hl:0<(limbs x.natAbs).length:=hp.2 oMx;clear hd hp hc
  go_enter Tryz.func76,Tryz.ntmps76
  go_wp2_with fail;go_ret
  exact ⟨by rw [E.out];rfl,bA⟩
 have E:=oH (show sg x=0 by simp [sg,h1,h2])
 have hl:¬0<(limbs x.natAbs).length:=fun h=>hp.1 h oMx
 clear hd hp hc
 go_enter Tryz.func76,Tryz.ntmps76
 go_wp2_with fail;go_ret
 exact ⟨by rw [E.out];rfl,bA⟩
end Go.Proofs.YtbjaplppalcmgaaGreatDoor
