import Derived.Test.YtafflnognagadaaGreatDoorZB
import Derived.Laws.CopyOwn
import Derived.StillTailTactics
import Derived.Test.YtafflnognagadaaGreatDoorShelf
import Derived.Lib.Repeat
set_option maxHeartbeats 16000000
set_option maxRecDepth 100000
namespace Go.Proofs.YtafflnognagadaaGreatDoor
open Go.RowKit
theorem zAe.alloc {k:IntKind} {w:World} {A:oAx} {xs:List Nat} (h:zAe k w A xs) (o:Obj):zAe k (w.alloc o) A xs :=
 h.keep sMx fun p hp=>World.cell?_alloc_lt w o p hp
theorem zBv.zero (w:World):zBv w (.slice none 0 0) 0:=⟨none,0,by rw [zPn];rfl,by rw [zPn];simp,by rw [zPn];exact zAe.nil _ _ _⟩
theorem zBv.mk {w:World} {A:oAx} {n c:Nat} (hl:(limbs n).length<=c) (h:zAe .u64 w A (limbs n)):zBv w (.slice A (limbs n).length c) n:=⟨A,c,rfl,hl,h⟩
def zFp (w:World) (q r:Nat) (e:Ending) (w':World):Prop:=∃ v u,e = .returned (.tuple #[v,u])/\zBv w' v q/\zBv w' u r/\Below w.heap.size w w'
theorem row_one (w:World) (x:Nat):Row .u64 (w.alloc (.cells #[.int .u64 (x:Int)] 167)) w.heap.size 167 [x]:=Row.new .u64 w 167 [x]
theorem trim_one {w:World} {g r:Nat} (h:Row .u64 w g 167 [r]) (hr:r<1000000000) :
  Calls Tryz.prog 141 #[.slice (some ⟨g,0,none⟩) 1 1] w fun e w'=>∃ v,e = .returned v/\zBv w' v r/\w=w':=by
 have hlow:Low [r]:=Low.cons hr Low.nil
 have hv:val [r]=r:=by simp [val]
 have ht:zXh [r]=limbs r:=by rw [<-zPm hlow,hv]
 exact (zXp (w:=w) (g:=g) (n:=1) ⟨rfl,hlow,by simpa [xAr] using h,bRx⟩ oMx ht).mono fun _ _ ⟨v,h1,h2,h3,_⟩=>⟨v,h1,h2,h3⟩
theorem zLl (A A':oAx) (a b c c':Nat) (w:World) (ha:zAe .u64 w A (limbs a)) (hb:zAe .u64 w A' (limbs b)) (hla:(limbs a).length<=100000000) (hlb:(limbs b).length<=100000000) (hc:(limbs a).length<=c) (hab:a<b) :
  Calls Tryz.prog 150 #[.slice A (limbs a).length c,.slice A' (limbs b).length c'] w (zFp w (a/b) (a%b)):=by
 have HC:=oH (zKb A A' a b c c' w ha hb oMx oMx);rw [zKa hab] at HC
 go_enter Tryz.func150,Tryz.ntmps150
 go_wp2_with fail;refine HC.mono ?_;rintro e w' ⟨rfl,m,rfl⟩;go_wp2_with fail;go_ret2
 rw [Nat.div_eq_of_lt hab,Nat.mod_eq_of_lt hab];exact ⟨_,_,rfl,zBv.zero _,zBv.mk hc ha,below_drewN bRx _⟩
theorem zLm (A A':oAx) (a b c c':Nat) (w:World) (ha:zAe .u64 w A (limbs a)) (hb:zAe .u64 w A' (limbs b)) (hla:(limbs a).length<=100000000) (hlb:(limbs b).length=1) (hab:b<=a) :
  Calls Tryz.prog 150 #[.slice A (limbs a).length c,.slice A' (limbs b).length c'] w (zFp w (a/b) (a%b)):=by
 have HC:=oH (zKb A A' a b c c' w ha hb oMx oMx);obtain ⟨x,hx,hx0⟩:∃ x:Int,x=zJx a b/\0<=x:=⟨_,rfl,by rcases Nat.lt_or_eq_of_le hab with h|h;(rw [zJz h];omega);(rw [zJy h.symm];omega)⟩;rw [<-hx] at HC;clear hx;have hbp:=zQy (n:=0) hlb;have hbl:=zPg b;rw [hlb,Nat.pow_one] at hbl;have hb1:limbs b=[b]:=zPh (by rcases Nat.eq_zero_or_pos b with e|e;(subst e;rw [zPn] at hlb;simp at hlb);exact e) hbl
 have hb0:0<b:=by rcases Nat.eq_zero_or_pos b with e|e;(subst e;rw [zPn] at hlb;simp at hlb);exact e
 obtain ⟨g,off,rfl,hg,hcl⟩:=hb (by rw [hb1];simp);have hcell:=hcl 0 oMx;rw [hb1,zQw,Nat.add_zero] at hcell;rw [hlb] at HC ⊢;clear hcl hb;clear hb1 hbp;have HL:=oH hlb;clear hlb;have HS:=oH (fun W hW=>zVl A a b c W hW hla hb0 hbl)
 go_enter Tryz.func150,Tryz.ntmps150
 go_wp2_with fail;refine HC.mono ?_;rintro e w' ⟨rfl,m,rfl⟩;go_wp2_with fail;refine (HS.out _ (ha.drewN m)).mono ?_;rintro e w1 ⟨v,rfl,hv,hbel⟩;have hmod:=Nat.mod_lt a hb0;go_wp2_with fail;refine (trim_one (row_one w1 (a%b)) oMx).mono ?_;rintro e w2 ⟨u,rfl,hu,rfl⟩;go_wp2_with fail;go_ret2
 have hbe:Below w1.heap.size w1 (w1.alloc (.cells #[.int .u64 ((a%b:Nat):Int)] 167)):=bA;have hb2:Below w.heap.size w (w.drewN m):=below_drewN bRx _;exact ⟨v,u,rfl,hv.below hbe,hu,(hb2.trans hbel).trans (hbe.mono hbel.size)⟩
theorem xAp {P:Program} {w:World} {ops:Array Oper} {rest:List Oper} {o:Oper} {a:Act} {Q:Exit->Act->World->Prop} (hgd:o.guard=none) (d s:Operand) (dT sT:TypeId)
  (ho:o.op = .call { callee := .builtin .copy,args:=#[d,s],argTypes:=#[dT,sT] }) (elem:TypeId) (hu:P.underlying dT=some (.slice elem)) (hsz:(P.info? elem).map (·.size)=some 1)
  (k:IntKind) (g dLen dCap:Nat) (A:oAx) (sLen sCap:Nat) (hd:a.eval d = .slice (some ⟨g,0,none⟩) dLen dCap) (hs:a.eval s = .slice A sLen sCap)
  (cur xs:List Nat) (t:TypeId) (hg:Row k w g t cur) (hc:zAe k w A xs) (hx:xs.length=sLen) (hle:sLen<=dLen) (hcur:cur.length=dLen) (hne:xs≠[])
  (h:∀ w',Row k w' g t (xs++cur.drop xs.length)->w.grownBy w' (some g)->wpList P ops Q rest (a.put o.dst (goInt xs.length)) w'):wpList P ops Q (o::rest) a w:=by
 obtain ⟨b,off,rfl,hb,hcl⟩:=hc hne;refine wpList_copy_own hgd d s dT sT ho elem hu hsz g 0 dLen dCap ⟨b,off,none⟩ sLen sCap hd hs (rowOf k cur) t hg ((rowOf k xs).toList) ?_ ?_ ?_ ?_ ?_
 ·have:(rowOf k xs).toList.length=xs.length:=by simp [rowOf]
  rw [this,hx];exact (Nat.min_eq_left hle).symm
 ·intro j v hj
  have hjl:j<xs.length:=by
   rcases Nat.lt_or_ge j xs.length with h1|h1
   ·exact h1
   rw [List.getElem?_eq_none (by simp [rowOf];omega)] at hj;cases hj
  have e:(rowOf k xs).toList[j]? = some (.int k ((nth xs j:Nat):Int)):=by
   rw [Array.getElem?_toList];exact zTu hjl
  rw [e] at hj;injection hj with hj;subst hj;have h2:=hcl j hjl
  have e2:(⟨b,off,none⟩:Addr).add j=⟨b,off+j,none⟩:=by
   unfold Addr.add;by_cases h0:j=0<;>simp [h0]
  rw [e2];exact h2
 ·simp [rowOf];omega
 ·intro v hv
  simp [rowOf] at hv
  obtain ⟨x,_,rfl⟩:=hv
  rfl
 have e1:(rowOf k xs).toList.length=xs.length:=by simp [rowOf]
 rw [e1];refine h _ ?_ ?_
 ·have h3:=setRow_heap w g _ ((rowOf k cur).toList.take 0++((rowOf k xs).toList++(rowOf k cur).toList.drop (0+xs.length))).toArray t _ hg;unfold Row;rw [h3]
  simp [rowOf,List.map_drop]
 exact ⟨rfl,rfl,rfl,by simp,fun j _ hj=>setRow_other w g j _ (fun e=>hj (by rw [e]))⟩
theorem sizeU64:(Tryz.prog.info? 167).map (·.size)=some 1:=by kernel_rfl
theorem zBv.cells {w:World} {A:oAx} {l c n:Nat} (h:zBv w (.slice A l c) n):zAe .u64 w A (limbs n):=by
 obtain ⟨A',c',e,_,hc⟩:=h;injection e with e _ _;subst e;exact hc
structure zAx (w wr:World) (g h:Nat) (A2:oAx) (a b f n K k:Nat) (us qs:List Nat):Prop where
 row:Row .u64 wr g 167 us
 len:us.length=K+(n+2)
 low:Low us
 qrow:Row .u64 wr h 167 qs
 qlen:qs.length=K
 qlow:Low qs
 div:Div a b f k us qs
 vs:zAe .u64 wr A2 (limbs (b*f))
 fr:Row .u64 wr w.heap.size 167 [f]
 bel:Below w.heap.size w wr
theorem zHz {B:Nat} {a w w':World} {g:Nat} (h:Below B a w) (hg:w.grownBy w' (some g)) (hB:B<=w.heap.size) (hr:B<=g):Below B a w' :=
 h.grown hg hB (fun k e=>by injection e with e;omega)
theorem Row.only {k:IntKind} {w w':World} {g h:Nat} {t:TypeId} {xs:List Nat} (hr:Row k w h t xs) (hg:w.grownBy w' (some g)) (hne:h≠g):Row k w' h t xs :=
 (hg.block h hr.lt (fun e=>hne (by injection e))).trans hr
theorem Row.only_set {k:IntKind} {w:World} {g h i:Nat} {t:TypeId} {xs:List Nat} (hr:Row k w h t xs) (u:Value) (hne:h≠g):Row k (w.setCell ⟨g,i,none⟩ u) h t xs:=hr.far (p:=⟨g,i,none⟩) hne u
theorem split3 (us:List Nat) (j m:Nat):us=us.take j++((us.drop j).take m++us.drop (j+m)):=by
 rw [<-List.drop_drop,List.take_append_drop,List.take_append_drop]
theorem zAx.step {w wr w2:World} {g h:Nat} {A2:oAx} {a b f n K j:Nat} {us qs ws:List Nat} (d:zAx w wr g h A2 a b f n K (j+1) us qs) (hj:j<K) (hf:Fac b n f) (hg:wr.grownBy w2 (some g)) (hrow:Row .u64 w2 g 167 (us.take j++(ws++us.drop (j+(n+3)))))
  (hwl:ws.length=n+3) (hlow:Low ws) (hv:val ws=val ((us.drop j).take (n+3))%(b*f)) (hoff:Off g A2) (hoff2:Off h A2) (hgh:g≠h) (hwg:w.heap.size<g) (hwh:w.heap.size<h) (hq:val ((us.drop j).take (n+3))/(b*f)<1000000000) :
  zAx w (w2.setCell ⟨h,j,none⟩ (.int .u64 ((val ((us.drop j).take (n+3))/(b*f):Nat):Int))) g h A2 a b f n K j (us.take j++(ws++us.drop (j+(n+3)))) (qs.set j (val ((us.drop j).take (n+3))/(b*f))):=by
 have hs:=hg.size;have hbs:=d.bel.size;have hul:=d.len;refine ⟨hrow.only_set _ hgh,?_,(d.low.take j).append (hlow.append (d.low.drop _)),((d.qrow.only hg (Ne.symm hgh)).set j _),by simp [d.qlen],d.qlow.set j hq,d.div.step hf d.low oMx (by rw [d.qlen];exact hj) hwl hv,?_,(d.fr.only hg oMx).only_set _ oMx,(zHz d.bel hg oMx oMx).setCell (by show w.heap.size<=h;omega) _⟩
 ·rw [List.length_append,List.length_append,List.length_take,List.length_drop,hwl];omega
 exact (d.vs.only hg hoff).only (zRn (g:=h) (World.grownBy.refl _ _) (.inl rfl) _) hoff2
theorem zLk (A A':oAx) (a b c c' n:Nat) (w:World) (ha:zAe .u64 w A (limbs a)) (hb:zAe .u64 w A' (limbs b)) (hla:(limbs a).length<=100000000) (hlb:(limbs b).length=n+2) (hab:b<=a) :
  Calls Tryz.prog 150 #[.slice A (limbs a).length c,.slice A' (limbs b).length c'] w (zFp w (a/b) (a%b)):=by
 have hlab:=zPd hab;have HC:=oH (zKb A A' a b c c' w ha hb oMx oMx);obtain ⟨x,hx,hx0⟩:∃ x:Int,x=zJx a b/\0<=x:=⟨_,rfl,by rcases Nat.lt_or_eq_of_le hab with h|h;(rw [zJz h];omega);(rw [zJy h.symm];omega)⟩;rw [<-hx] at HC;clear hx;obtain ⟨f,hf⟩:∃ f,f=1000000000/(nth (limbs b) (n+1)+1):=⟨_,rfl⟩
 have hF:Fac b n f:=by rw [hf];exact Fac.mk' hlb
 have HF:=oH hF;have HFE:=oH hf;have hf0:=hF.pos;have hf1:=hF.low;clear hF hf
 have hn:n+2<=(limbs a).length:=by omega
 obtain ⟨gb,ob,rfl,hgb,hcb⟩:=hb (by intro e;rw [e] at hlb;simp at hlb);have hbt:=hcb (n+1) oMx;have hbl:=(Low.limbs b).nth (n+1);have HB:=oH hb;have HCB:=oH hcb;clear hb hcb;rw [hlb] at HC ⊢;have HLB:=oH hlb;clear hlb hlab
 go_enter Tryz.func150,Tryz.ntmps150
 go_wp2_with fail;refine HC.mono ?_;rintro e w' ⟨rfl,m,rfl⟩;go_upto_region 7 with (fail)
 have ef:(1000000000/(↑(nth (limbs b) (n+1))+1):Int)=(f:Int):=by rw [HFE.out];simp
 rw [ef];have hrf:Row .u64 ((w.drewN m).alloc (.cells #[.int .u64 (f:Int)] 167)) w.heap.size 167 [f]:=row_one (w.drewN m) f;have hbw:Below w.heap.size w ((w.drewN m).alloc (.cells #[.int .u64 (f:Int)] 167)):=(below_drewN bRx _).alloc lRx _
 have hs1:((w.drewN m).alloc (.cells #[.int .u64 (f:Int)] 167)).heap.size=w.heap.size+1:=by simp
 generalize ((w.drewN m).alloc (.cells #[.int .u64 (f:Int)] 167))=w1 at *
 have hs1':w.heap.size+1<=w1.heap.size:=by omega
 have HRF:=oH hrf;have HA1:=oH (ha.below hbw);have HB1:=oH (HB.below hbw);have HBW:=oH hbw;clear ef hrf hbw hs1 ha HC hbt
 go_cut [9,10] (fun u v wc=>∃ (g cv:Nat) (A2:oAx),u = .slice (some ⟨g,0,none⟩) ((limbs a).length+1) ((limbs a).length+1)/\v = .slice A2 (n+2) cv/\Row .u64 wc g 167 (xAr ((limbs a).length+1))/\zAe .u64 wc A2 (limbs (b*f))/\Off g A2/\w1.heap.size<=g/\Below w1.heap.size w1 wc)
 case first =>
  obtain ⟨i0,hi,hz0,hz1,hz2⟩:=info_parts Tryz.infoU64
  have hmk:=fun W=>zUq (P:=Tryz.prog) 156 167 i0 .u64 8 Tryz.underlying156 hi hz0 hz1 hz2 ((limbs a).length+1) oMx oMx W
  rw [Int.natCast_succ] at hmk;clear hi hz0 hz1 hz2;have HMUL:=oH (fun (W:World) (hW:zAe .u64 W (some ⟨gb,ob,none⟩) (limbs b)) (hW2:zAe .u64 W (some ⟨w.heap.size,0,none⟩) (limbs f))=>zQe (some ⟨gb,ob,none⟩) (some ⟨w.heap.size,0,none⟩) b f c' 1 W hW hW2 (by rw [HLB.out];omega) (by rw [zPh hf0 hf1];simp));rw [HLB.out,HF.len2,zPh hf0 hf1,show [f].length=1 from rfl] at HMUL;have HRC:Hid (zAe .u64 w1 (some ⟨w.heap.size,0,none⟩) [f]):=HRF.cells
  have HB1':Hid (∀ o,zAe .u64 (w1.drew.alloc o) (some ⟨gb,ob,none⟩) (limbs b)):=fun o=>(HB1.drew).alloc o
  have HRC':Hid (∀ o,zAe .u64 (w1.drew.alloc o) (some ⟨w.heap.size,0,none⟩) [f]):=fun o=>(HRC.drew).alloc o
  have hwr:IntKind.i64.wrap (↑(limbs a).length+1) = ↑(limbs a).length+1:=IntWalk.i64_in _ oMx
  go_region_with (first|(go_at_call 166;refine (HMUL.out _ (by first|exact HB1.out|exact HB1'.out _) (by first|exact HRC.out|exact HRC'.out _)).mono ?_;rintro e w4 ⟨⟨v4,hv4,hn4,hb4⟩,rfl⟩))
  all_goals (try go_wp2_with fail)
  all_goals go_meet
  ·injection hv4 with hv4;subst hv4;have h1:Row .u64 (w1.alloc (.cells (rowOf .u64 (xAr ((limbs a).length+1))) 167)).drew w1.heap.size 167 (xAr ((limbs a).length+1)):=Row.new _ _ _ _;have h2:Below w1.heap.size w1 (w1.alloc (.cells (rowOf .u64 (xAr ((limbs a).length+1))) 167)).drew:=bA.drew;refine ⟨w1.heap.size,_,_,rfl,rfl,h1.below hb4 h1.lt,?_,?_,lRx,h2.trans (hb4.mono h2.size)⟩
   ·have h3:=hn4.cells
    simpa using h3
   intro b' o' e'
   injection e' with e';injection e' with e';omega
  injection hv4 with hv4;subst hv4;have h2:Below w1.heap.size w1 w4:=⟨hb4.os,hb4.tape,hb4.output,hb4.size,hb4.block⟩
  have hlt:w1.heap.size<w4.heap.size:=by
   obtain ⟨b',o',e',hlt',_⟩:=hn4.cells (by intro e;have:=HF.len2;rw [e] at this;simp at this);injection e' with e';injection e' with e';have e2:w1.heap.size=b':=e';omega
  refine ⟨w4.heap.size,_,_,rfl,rfl,Row.new _ _ _ _,(zAe.alloc hn4.cells _),?_,h2.size,h2.alloc h2.size _⟩
  intro b' o' e'
  injection e' with e';injection e' with e';omega
 case rest =>
  obtain ⟨g,cv,A2,rfl,rfl,hrow,hcv,hoff,hg1,hbc⟩:=hcut;have HROW:=oH hrow;have HCV:=oH hcv;have HBC:=oH hbc;have HAC:=oH (HA1.below hbc);have HRFC:=oH (HRF.below hbc oMx);have hbs:=hbc.size;clear hrow hcv hbc;have HM:=oH (zQe A (some ⟨w.heap.size,0,none⟩) a f c 1 wc HAC.out (by rw [zPh hf0 hf1];exact HRFC.cells) hla (by rw [zPh hf0 hf1];simp));rw [zPh hf0 hf1,show [f].length=1 from rfl] at HM;go_wp2_with fail;refine HM.mono ?_;rintro e w2 ⟨⟨v2,hv2,hn2,hb2⟩,rfl⟩;injection hv2 with hv2;subst hv2;obtain ⟨A3,c3,he3,hl3,hc3⟩:=hn2;injection he3 with he3a _ he3c;subst he3a he3c;have HC3:=oH hc3;have HB2:=oH hb2;have HRW2:=oH (HROW.below hb2 (HROW.lt));have haf:0<a*f:=Nat.mul_pos (by have:=HF.ne;omega) hf0
  have hne:limbs (a*f)≠[]:=by intro e;have:=zOx.1 e;omega
  have hle3:(limbs (a*f)).length<=(limbs a).length+1:=zPb (by
   have h1:=zPg a;have h2:a*f<1000000000^(limbs a).length*1000000000:=Nat.mul_lt_mul'' h1 hf1
   rw [Nat.pow_succ];exact h2)
  clear hc3 hb2 hl3
  go_wp2_with (with_reducible refine xAp rfl (.tmp 49) (.tmp 52) 156 156 rfl 167 Tryz.underlying156 sizeU64 .u64 g _ _ _ _ _ rfl rfl (xAr ((limbs a).length+1)) (limbs (a*f)) 167 HRW2.out HC3.out rfl hle3 (xAs _) hne ?_)
  intro w3 hrow3 hgr3
  obtain ⟨K,hK⟩:∃ K,(limbs a).length+1=K+(n+2):=⟨(limbs a).length+1-(n+2),oMx⟩
  have hK1:(limbs a).length+1<=K+(n+2):=by omega
  have hK2:K+(n+2)<=(limbs a).length+1:=by omega
  have hs3:=hgr3.size;have hs2:=HB2.size
  have hzl:(limbs (a*f)++List.drop (limbs (a*f)).length (xAr ((limbs a).length+1))).length=K+(n+2):=by rw [List.length_append,List.length_drop,xAs];omega
  have hdz:List.drop (limbs (a*f)).length (xAr ((limbs a).length+1))=xAr ((limbs a).length+1-(limbs (a*f)).length):=by simp [xAr]
  have hlz:Low (limbs (a*f)++List.drop (limbs (a*f)).length (xAr ((limbs a).length+1))):=(Low.limbs _).append ((zPs _).drop _)
  have hvz:val (limbs (a*f)++List.drop (limbs (a*f)).length (xAr ((limbs a).length+1)))=a*f:=by rw [zYf,hdz,zYw,zYj];simp
  have hdiv:=Div.start HF.out _ (xAr K) (by rw [hzl,hK]) hvz (by rw [xAs];omega) hn hlz;rw [show (limbs a).length+1-(n+2)=K by omega] at hdiv;have hgw2:g<w2.heap.size:=HRW2.lt;have hc2:=(HCV.below HB2.out).only hgr3 hoff;have hf2:=(HRFC.below HB2.out HRFC.lt).only hgr3 (show w.heap.size≠g by omega);have hb1c:Below w.heap.size w wc:=HBW.trans (HBC.mono oMx);have hb3:Below w.heap.size w w3:=zHz (hb1c.trans (HB2.mono oMx)) hgr3 oMx oMx
  have hoff2:Off w3.heap.size A2:=fun b' off' e'=>by
   obtain ⟨b2,o2,e2,hlt2,_⟩:=hc2 (by intro e;have:=HF.len2;rw [e] at this;simp at this)
   rw [e'] at e2;injection e2 with e2;injection e2 with e2;omega
  have hst:zAx w (w3.alloc (.cells (rowOf .u64 (xAr K)) 167)) g w3.heap.size A2 a b f n K K (limbs (a*f)++List.drop (limbs (a*f)).length (xAr ((limbs a).length+1))) (xAr K) :=
   ⟨hrow3.alloc _,hzl,hlz,Row.new _ _ _ _,xAs _,zPs _,hdiv,hc2.alloc _,hf2.alloc _,hb3.alloc oMx _⟩
  have HST:=oH hst
  have hg3:g<w3.heap.size:=by omega
  have hgw:w.heap.size<g:=by omega
  clear hrow3 hgr3 hzl hdz hlz hvz hdiv hc2 hf2 hb1c hb3 hst hne hK haf hle3 HB2 HRW2 HC3 HM HROW HCV HBC HAC HRFC HRF HA1 HB1 HBW HB HCB;obtain ⟨i0,hi,hz0,hz1,hz2⟩:=info_parts Tryz.infoU64
  have hmk:=fun W=>zUq (P:=Tryz.prog) 156 167 i0 .u64 8 Tryz.underlying156 hi hz0 hz1 hz2 K oMx oMx W
  rw [show ((K:Nat):Int)=((limbs a).length:Int)+1-((n:Int)+2) by omega] at hmk;clear hi hz0 hz1 hz2;go_wp2_with fail;clear hmk;obtain ⟨h4,hh4⟩:∃ h4,h4=w3.heap.size:=⟨_,rfl⟩
  go_loopw [12] (fun ix wr=>∃ (k:Nat) (us qs:List Nat),k<=K/\ix = .int .i64 ((k:Int)-1)/\zAx w wr g w3.heap.size A2 a b f n K k us qs) (fun ix _=>(intOf ix+1).toNat)
  ·exact ⟨K,_,_,lRx,rfl,HST.out⟩
  obtain ⟨k,us,qs,hk,rfl,hst⟩:=hrel;clear HST;have HST:=oH hst;clear hst
  rcases Nat.eq_zero_or_pos k with h0|h0
  ·subst h0;have hlen:=HST.len
   have hxl:(us.take (n+2)).length=n+2:=by rw [List.length_take];omega
   have hrest:=HST.div.rest HF.out HST.low oMx;have hdone:=HST.div.done hf0 HF.ne;have HT:=oH (fun (W:World) (hW:zAe .u64 W (some ⟨g,0,none⟩) (us.take (n+2)))=>zXo (some ⟨g,0,none⟩) (us.take (n+2)) ((limbs a).length+1) W hW oMx oMx);rw [hxl,hrest] at HT;have hmb:a%b*f<1000000000^(n+2):=Nat.lt_of_le_of_lt (Nat.mul_le_mul_right f (Nat.le_of_lt (Nat.mod_lt a HF.ne))) HF.fit;have hrl:=zPb hmb;have HS:=oH (fun (W:World) (hW:zAe .u64 W (some ⟨g,0,none⟩) (limbs (a%b*f)))=>zVl (some ⟨g,0,none⟩) (a%b*f) f ((limbs a).length+1) W hW oMx hf0 hf1);rw [Nat.mul_div_cancel _ hf0] at HS;have hcg:=HST.row.cells.take (n+2);have hcg2:=HST.row.cells.take (n+2);have HCG:=oH hcg
   have HTK:Hid (zAe .u64 wr (some ⟨g,0,none⟩) (limbs (a%b*f))):=by
    have:=hcg.take (zXh (us.take (n+2))).length;rw [<-zXl,hrest] at this;exact this
   have hfc:=HST.fr.cell (i:=0) sMx;rw [zQw] at hfc;have HQT:=oH (fun (W:World) (hW:Row .u64 W w3.heap.size 167 qs)=>zXp (w:=W) (wr:=W) (g:=w3.heap.size) (n:=K) (r:=a/b) (os:=qs) ⟨HST.qlen,HST.qlow,by rw [Nat.sub_self,show xAr 0=[] from rfl,List.append_nil];exact hW,bRx⟩ oMx (by rw [<-zPm HST.qlow,hdone.1]));clear hcg hcg2 hrest hdone hmb hrl hxl hlen;go_wp2_with fail
   go_region_with (first|(go_at_call 141;refine (HT.out _ (by exact HCG.out)).mono ?_;rintro e w' ⟨rfl,rfl⟩)|(go_at_call 165;refine (HS.out _ (by exact HTK.out)).mono ?_;rintro e w6 ⟨v6,rfl,hv6,hb6⟩))
   all_goals (
    have HB6:Hid (Below wr.heap.size wr w6):=⟨hb6.os,hb6.tape,hb6.output,hb6.size,hb6.block⟩;have HV6:=oH hv6;clear hb6 hv6;go_wp2_with fail;refine (HQT.out _ (HST.qrow.below HB6.out HST.qrow.lt)).mono ?_;rintro e w7 ⟨v7,rfl,hv7,rfl, -⟩;go_wp2_with fail;go_ret2
    exact ⟨v7,v6,rfl,hv7,HV6.out,HST.bel.trans (HB6.mono HST.bel.size)⟩)
  obtain ⟨j,rfl⟩:∃ j,k=j+1:=⟨k-1,oMx⟩
  have hjk:j<K:=by omega
  have hcell:=HST.qrow.cell (i:=j) (by rw [HST.qlen];omega);have hfro:=HST.qrow.frozen j;obtain ⟨hw1,hw2⟩:=HST.div.win HF.out HST.low (by have:=HST.len;omega)
  have hwl:((us.drop j).take (n+3)).length=n+3:=by have:=HST.len;rw [List.length_take,List.length_drop];omega
  have hvq:val ((us.drop j).take (n+3))/(b*f)<1000000000:=Nat.div_lt_of_lt_mul (by rw [Nat.mul_comm];exact hw1);have hrowj:=HST.row;rw [split3 us j (n+3)] at hrowj;have HSTEP:=oH (step_any g j n ((limbs a).length+1-j) cv A2 (us.take j) ((us.drop j).take (n+3)) (us.drop (j+(n+3))) (limbs (b*f)) wr hrowj (by have:=HST.len;rw [List.length_take];omega) hwl HF.len2 ((HST.low.drop _).take _) (Low.limbs _) HST.vs hoff oMx (zQy HF.len2) (by rw [zYj];exact hw1));rw [zYj] at HSTEP;clear hrowj hw1 hw2 hwl hcell hfro;have HVQ:=oH hvq;clear hvq;go_wp2_with fail;rw [show j+(n+2)+1-j=n+3 by omega];refine HSTEP.mono ?_;rintro e w5 ⟨ws,rfl,hrw5,hl5,hlow5,hv5,hg5⟩;have hcell:=(HST.qrow.only hg5 oMx).cell (i:=j) (by rw [HST.qlen];omega);have hfro:=(HST.qrow.only hg5 oMx).frozen j;have hst2:=HST.step hjk HF.out hg5 hrw5 hl5 hlow5 hv5 hoff hoff2 oMx oMx oMx HVQ.out;have HST2:=oH hst2;clear hst2 hrw5 hl5 hlow5 hv5 hg5
  go_wp2_with fail;go_roundw
  ·exact ⟨j,_,_,oMx,by go_num,HST2.out⟩
  simp [intOf]
theorem zLj (A A':oAx) (a b c c':Nat) (w:World) (ha:zAe .u64 w A (limbs a)) (hb:zAe .u64 w A' (limbs b)) (hla:(limbs a).length<=100000000) (hlb:(limbs b).length<=100000000) (hc:(limbs a).length<=c) (hb0:0<b) :
  Calls Tryz.prog 150 #[.slice A (limbs a).length c,.slice A' (limbs b).length c'] w (zFp w (a/b) (a%b)):=by
 rcases Nat.lt_or_ge a b with h|h
 ·exact zLl A A' a b c c' w ha hb hla hlb hc h
 have h1:=zPf.2 (show b≠0 by omega)
 by_cases h2:(limbs b).length=1
 ·exact zLm A A' a b c c' w ha hb hla h2 h
 exact zLk A A' a b c c' ((limbs b).length-2) w ha hb hla oMx h
theorem zPl {n:Nat} (h:(limbs n).length<=2):nth (limbs n) 1*1000000000+nth (limbs n) 0=n/\n<1000000000000000000:=by
 have h1:=zPg n;have h2:=zSn h;have h3:=zYj n;have e1:val ((limbs n).drop 1)=nth (limbs n) 1+1000000000*val ((limbs n).drop 2):=zYh (limbs n) 1;have e0:val ((limbs n).drop 0)=nth (limbs n) 0+1000000000*val ((limbs n).drop 1):=zYh (limbs n) 0;have e2:(limbs n).drop 2=[]:=List.drop_eq_nil_of_le h;rw [e2,zYm] at e1;rw [List.drop_zero,h3] at e0;exact ⟨oMx,by rw [show (1000000000:Nat)^2=1000000000000000000 from rfl] at h2;omega⟩
theorem zVt (A:oAx) (n c:Nat) (w:World) (hx:zAe .u64 w A (limbs n)) (hl:(limbs n).length<=2) :
  Calls Tryz.prog 137 #[.slice A (limbs n).length c] w fun e w'=>e = .returned (.int .u64 (n:Int))/\w=w':=by
 have h2:=zPl hl;have b0:=(Low.limbs n).nth 0;have b1:=(Low.limbs n).nth 1;have H2:=oH h2.1;have H0:=oH (zHl A (limbs n) c 0 w hx oMx oMx);have H1:=oH (zHl A (limbs n) c 1 w hx oMx oMx);clear h2
 go_enter Tryz.func137,Tryz.ntmps137
 go_wp2_with fail;refine H1.mono ?_;rintro e w' ⟨rfl,rfl⟩;go_wp2_with fail;refine H0.mono ?_;rintro e w' ⟨rfl,rfl⟩;go_wp2_with fail;go_ret
 exact ⟨zTj (by have:=H2.out;omega),rfl⟩
def Two (w wr:World) (s0 s1:Value) (p q:Nat):Prop:=∃ (A A':oAx) (c c':Nat),s0 = .slice A (limbs p).length c/\s1 = .slice A' (limbs q).length c'/\(limbs p).length<=c/\(limbs q).length<=c'/\zAe .u64 wr A (limbs p)/\zAe .u64 wr A' (limbs q)/\Below w.heap.size w wr
theorem zXw {x:Nat} (h:x<1000000000000000000):zXh [x%1000000000,x/1000000000]=limbs x:=by
 have hl:Low [x%1000000000,x/1000000000]:=Low.cons oMx (Low.cons oMx Low.nil);rw [<-zPm hl]
 congr 1
 simp [val]
 omega
theorem row_two (w:World) (x y:Nat):Row .u64 (w.alloc (.cells #[.int .u64 (x:Int),.int .u64 (y:Int)] 167)) w.heap.size 167 [x,y]:=Row.new .u64 w 167 [x,y]
theorem gcd_any (A A':oAx) (a b c c':Nat) (w:World) (ha:zAe .u64 w A (limbs a)) (hb:zAe .u64 w A' (limbs b)) (hla:(limbs a).length<=100000000) (hlb:(limbs b).length<=100000000) (hc:(limbs a).length<=c) (hc':(limbs b).length<=c') :
  Calls Tryz.prog 142 #[.slice A (limbs a).length c,.slice A' (limbs b).length c'] w (zFo w (Nat.gcd a b)):=by
 have H0:Hid (Two w w (.slice A (limbs a).length c) (.slice A' (limbs b).length c') a b):=⟨_,_,_,_,rfl,rfl,hc,hc',ha,hb,bRx⟩;clear ha hb hc hc'
 go_enter Tryz.func142,Tryz.ntmps142
 go_wp2_with fail
 go_loopg [0,1] b (fun k s0 s1 wr=>∃ x:Nat,Two w wr s0 s1 x k/\(limbs x).length<=100000000/\(limbs k).length<=100000000/\Nat.gcd x k=Nat.gcd a b)
 ·exact ⟨a,H0.out,hla,hlb,rfl⟩
 obtain ⟨x,⟨A1,A2,c1,c2,rfl,rfl,h1,h2,h3,h4,h5⟩,hlx,hlk,hg⟩:=hrel;have HG:=oH hg;have H3:=oH h3;have H4:=oH h4;have H5:=oH h5;clear hg h3 h4 h5 H0
 by_cases hk2:2<(limbs gk).length
 ·have hk0:0<gk:=by rcases Nat.eq_zero_or_pos gk with e|e;(subst e;rw [zPn] at hk2;simp at hk2);exact e
  have HD:=oH (zLj A1 A2 x gk c1 c2 wr H3.out H4.out hlx hlk h1 hk0);go_wp2_with fail;refine HD.mono ?_;rintro e w2 ⟨v,u,rfl,hv,hu,hb2⟩;obtain ⟨A3,c3,rfl,hl3,hc3⟩:=hu;have hm:=Nat.mod_lt x hk0;have HC3:=oH hc3;have HB2:=oH hb2;clear hv hc3 hb2;go_wp2_with fail
  go_roundg (x%gk)
  case measure=>exact hm
  case rel=>exact ⟨gk,⟨_,_,_,_,rfl,rfl,h2,hl3,H4.below HB2.out,HC3.out,H5.trans (HB2.mono H5.size)⟩,hlk,Nat.le_trans (zPd (Nat.le_of_lt hm)) hlk,by rw [<-HG.out,Nat.gcd_comm gk,<-Nat.gcd_rec,Nat.gcd_comm]⟩
 rcases Nat.eq_zero_or_pos gk with h0|h0
 ·subst h0;have E:=oH (show x=Nat.gcd a b by rw [<-HG.out,Nat.gcd_zero_right])
  have hz:(limbs 0).length<=0:=by rw [zPn];simp
  have hz':(((limbs 0).length:Int)==0)=true:=by rw [zPn];simp
  go_wp2_with fail;go_ret
  exact ⟨_,rfl,by rw [<-E.out];exact zBv.mk h1 H3.out,H5.out⟩
 have hp:0<(limbs gk).length:=zPf.2 oMx
 have hz':(((limbs gk).length:Int)==0)=false:=by rw [beq_eq_false_iff_ne];omega
 have HD:=oH (zLj A1 A2 x gk c1 c2 wr H3.out H4.out hlx hlk h1 h0)
 go_upto_if 28 with (fail)
 go_cut [0,1] (fun s0 s1 wc=>∃ (p q:Nat),Two w wc s0 s1 p q/\(limbs p).length<=2/\(limbs q).length<=2/\Nat.gcd p q=Nat.gcd a b)
 case first =>
  by_cases hx2:2<(limbs x).length
  ·go_wp2_with fail;refine HD.mono ?_;rintro e w2 ⟨v,u,rfl,hv,hu,hb2⟩;obtain ⟨A3,c3,rfl,hl3,hc3⟩:=hu;have hm:=Nat.mod_lt x h0;have HC3:=oH hc3;have HB2:=oH hb2;clear hv hc3 hb2;go_wp2_with fail
   go_meet
   case rel=>exact ⟨gk,x%gk,⟨_,_,_,_,rfl,rfl,h2,hl3,H4.below HB2.out,HC3.out,H5.trans (HB2.mono H5.size)⟩,oMx,Nat.le_trans (zPd (Nat.le_of_lt hm)) oMx,by rw [<-HG.out,Nat.gcd_comm gk,<-Nat.gcd_rec,Nat.gcd_comm]⟩
  go_wp2_with fail
  go_meet
  case rel=>exact ⟨x,gk,⟨_,_,_,_,rfl,rfl,h1,h2,H3.out,H4.out,H5.out⟩,oMx,oMx,HG.out⟩
 case rest =>
  clear H3 H4 H5 HG HD hk2 hz' hp h0;obtain ⟨p,q,⟨A3,A4,c3,c4,rfl,rfl,h3,h4,h5,h6,h7⟩,hp2,hq2,hg⟩:=hcut;have HG:=oH hg;have H7:=oH h7;have HS1:=oH (zVt A3 p c3 wc h5 hp2);have HS2:=oH (zVt A4 q c4 wc h6 hq2);have hpB:=(zPl hp2).2;have hqB:=(zPl hq2).2;clear hg h5 h6 h7;go_wp2_with fail;refine HS1.mono ?_;rintro e w' ⟨rfl,rfl⟩;go_wp2_with fail;refine HS2.mono ?_;rintro e w' ⟨rfl,rfl⟩;go_wp2_with fail
  go_loopw [9,10] (fun s t wr=>∃ (x y m:Nat),s = .int .u64 (x:Int)/\t = .int .u64 (y:Int)/\x<1000000000000000000/\y<1000000000000000000/\Nat.gcd x y=Nat.gcd a b/\wr=wc.drewN m) (fun _ t _=>(intOf t).toNat)
  ·exact ⟨p,q,0,rfl,rfl,hpB,hqB,HG.out,rfl⟩
  obtain ⟨x,y,m,rfl,rfl,hx,hy,hg,rfl⟩:=hrel;clear HG;have HG:=oH hg;clear hg
  rcases Nat.eq_zero_or_pos y with h0|h0
  ·subst h0;have HE:=oH (show x=Nat.gcd a b by rw [<-HG.out,Nat.gcd_zero_right]);have hr2:=row_two (wc.drewN m) (x%1000000000) (x/1000000000);have HTR:=oH (zXp (w:=wc.drewN m) (n:=2) (r:=x) ⟨rfl,Low.cons oMx (Low.cons oMx Low.nil),by rw [Nat.sub_self,show xAr 0=[] from rfl,List.append_nil];exact hr2,bA⟩ oMx (zXw hx));clear hr2;go_wp2_with fail
   have e1:(x:Int)%1000000000=((x%1000000000:Nat):Int):=by omega
   have e2:(x:Int)/1000000000=((x/1000000000:Nat):Int):=by omega
   rw [e1,e2];refine HTR.mono ?_;rintro e w9 ⟨v,rfl,hv,rfl, -⟩;clear e1 e2;go_wp2_with fail;go_ret
   exact ⟨_,rfl,by rw [<-HE.out];exact hv,(below_drewN H7.out m).alloc H7.size _⟩
  have hy':((y:Int) != 0)=true:=by simp;omega
  have hmm:=Nat.mod_lt x h0;go_wp2_with fail
  go_quiet (fail)
  go_wp2_with fail;go_roundw
  ·exact ⟨y,x%y,_,rfl,by simp,hy,oMx,by rw [<-HG.out,Nat.gcd_comm y,<-Nat.gcd_rec,Nat.gcd_comm],by simp only [World.drewN_drewN];rfl⟩
  simp [intOf];omega
def zBw (w:World) (v:Value) (z:Int):Prop:=∃ s,v = .agg #[.bool (decide (z<0)),s]/\zBv w s z.natAbs
theorem zBw.below {w w':World} {v:Value} {z:Int} (h:zBw w v z) (hb:Below w.heap.size w w'):zBw w' v z:=by
 obtain ⟨s,e,hs⟩:=h;exact ⟨s,e,hs.below hb⟩
def zFq (w:World) (z:Int) (e:Ending) (w':World):Prop:=∃ v,e = .returned v/\zBw w' v z/\Below w.heap.size w w'
theorem zRd (ng:Bool) (A:oAx) (l c:Nat) (w:World) (hl:l<=1000000000) :
  Calls Tryz.prog 140 #[.bool ng,.slice A l c] w fun e w'=>e = .returned (.agg #[.bool (ng&&decide (0<l)),.slice A l c])/\Below w.heap.size w w':=by
 cases ng
 ·go_enter Tryz.func140,Tryz.ntmps140
  go_wp2_with fail;exact bodyPost_ret (v := .agg #[.bool false,.slice A l c]) (by simp [results,Tryz.results140,go_sem]) rfl ⟨rfl,(bA)⟩
 by_cases h:0<l
 ·have h':decide (0<(l:Int))=true:=by simp;omega
  go_enter Tryz.func140,Tryz.ntmps140
  go_wp2_with fail;exact bodyPost_ret (v := .agg #[.bool true,.slice A l c]) (by simp [results,Tryz.results140,go_sem]) rfl ⟨by simp [h],(bA)⟩
 have h':decide (0<(l:Int))=false:=by simp;omega
 go_enter Tryz.func140,Tryz.ntmps140
 go_wp2_with fail;exact bodyPost_ret (v := .agg #[.bool false,.slice A l c]) (by simp [results,Tryz.results140,go_sem]) rfl ⟨by simp [h],(bA)⟩
def sgn (ng:Bool) (n:Nat):Int:=if ng then -(n:Int) else (n:Int)
theorem sgn_neg (ng:Bool) (n:Nat):decide (sgn ng n<0)=(ng&&decide (0<(limbs n).length)):=by
 have h:0<(limbs n).length↔n≠0:=zPf
 cases ng
 ·simp [sgn]
 simp only [sgn,if_true,Bool.true_and]
 rw [decide_eq_decide,h];omega
theorem zVj (ng:Bool) (n:Nat):(sgn ng n).natAbs=n:=by cases ng<;>simp [sgn]
theorem sgn_self (z:Int):sgn (decide (z<0)) z.natAbs=z:=by
 unfold sgn
 by_cases h:z<0<;>simp [h]<;>omega
theorem zNq {w:World} {s:Value} {ng:Bool} {n:Nat} (h:zBv w s n):zBw w (.agg #[.bool (ng&&decide (0<(limbs n).length)),s]) (sgn ng n) :=
 ⟨s,by rw [sgn_neg],by rw [zVj];exact h⟩
theorem zRe (ng:Bool) (v:Value) (n:Nat) (w:World) (h:zBv w v n) (hl:(limbs n).length<=1000000000):Calls Tryz.prog 140 #[.bool ng,v] w (zFq w (sgn ng n)):=by
 obtain ⟨A,c,rfl,hlc,hc⟩:=h;refine (zRd ng A (limbs n).length c w hl).mono ?_;rintro e w' ⟨rfl,hb⟩;exact ⟨_,rfl,zNq (zBv.mk hlc (hc.below hb)),hb⟩
structure zAd (w W:World) (n0 n1:Bool) (s0 s1:Value):Prop where
 a0:W.cell? ⟨w.heap.size,0,none⟩=some (.bool n0)
 a1:W.cell? ⟨w.heap.size,1,none⟩=some s0
 b0:W.cell? ⟨w.heap.size+1,0,none⟩=some (.bool n1)
 b1:W.cell? ⟨w.heap.size+1,1,none⟩=some s1
 rb:W.heap[w.heap.size+1+1]? = some (.cells #[.bool false,.slice none 0 0] 158 (0,0))
 r0:W.cell? ⟨w.heap.size+1+1,0,none⟩=some (.bool false)
 r1:W.cell? ⟨w.heap.size+1+1,1,none⟩=some (.slice none 0 0)
 f0:W.frozen? ⟨w.heap.size+1+1,0,none⟩=false
 f1:W.frozen? ⟨w.heap.size+1+1,1,none⟩=false
 bel:Below w.heap.size w W
 size:w.heap.size+3<=W.heap.size
theorem zPa (a b:Nat):(limbs (a+b)).length<=max (limbs a).length (limbs b).length+1:=by
 apply zPb
 have h1:=Nat.lt_of_lt_of_le (zPg a) (zSn (Nat.le_max_left (limbs a).length (limbs b).length));have h2:=Nat.lt_of_lt_of_le (zPg b) (zSn (Nat.le_max_right (limbs a).length (limbs b).length));rw [Nat.pow_succ];generalize 1000000000^max (limbs a).length (limbs b).length=P at *;omega
theorem boxes (w:World) (n0 n1:Bool) (s0 s1:Value):zAd w (((w.alloc (.cells #[.bool n0,s0] 158)).alloc (.cells #[.bool n1,s1] 158)).alloc (.cells #[.bool false,.slice none 0 0] 158)) n0 n1 s0 s1:=by
 have e1:(((w.alloc (.cells #[.bool n0,s0] 158)).alloc (.cells #[.bool n1,s1] 158)).alloc (.cells #[.bool false,.slice none 0 0] 158)).heap[w.heap.size]? = some (.cells #[.bool n0,s0] 158 (0,0)):=by
  rw [Below.heap_alloc _ _ _ (by simp;omega),Below.heap_alloc _ _ _ sMx];exact heap_alloc_new w _
 have e2:(((w.alloc (.cells #[.bool n0,s0] 158)).alloc (.cells #[.bool n1,s1] 158)).alloc (.cells #[.bool false,.slice none 0 0] 158)).heap[w.heap.size+1]? = some (.cells #[.bool n1,s1] 158 (0,0)):=by
  rw [Below.heap_alloc _ _ _ sMx];have:=heap_alloc_new (w.alloc (.cells #[.bool n0,s0] 158)) (.cells #[.bool n1,s1] 158)
  simpa using this
 have e3:(((w.alloc (.cells #[.bool n0,s0] 158)).alloc (.cells #[.bool n1,s1] 158)).alloc (.cells #[.bool false,.slice none 0 0] 158)).heap[w.heap.size+1+1]? = some (.cells #[.bool false,.slice none 0 0] 158 (0,0)):=by
  have:=heap_alloc_new ((w.alloc (.cells #[.bool n0,s0] 158)).alloc (.cells #[.bool n1,s1] 158)) (.cells #[.bool false,.slice none 0 0] 158)
  simpa using this
 exact ⟨cell_of_row _ _ 0 _ _ (0,0) e1,cell_of_row _ _ 1 _ _ (0,0) e1,cell_of_row _ _ 0 _ _ (0,0) e2,cell_of_row _ _ 1 _ _ (0,0) e2,e3,cell_of_row _ _ 0 _ _ (0,0) e3,cell_of_row _ _ 1 _ _ (0,0) e3,
  frozen_of_row _ _ 0 _ _ e3,frozen_of_row _ _ 1 _ _ e3,(((bA).alloc sMx _).alloc (by simp;omega) _),by simp⟩
theorem zAd.below {w W W':World} {n0 n1:Bool} {s0 s1:Value} (h:zAd w W n0 n1 s0 s1) (hb:Below W.heap.size W W'):zAd w W' n0 n1 s0 s1:=by
 have hs:=h.size;have hs':=hb.size;refine ⟨?_,?_,?_,?_,(hb.block _ oMx).trans h.rb,?_,?_,?_,?_,h.bel.trans (hb.mono oMx),oMx⟩
 ·rw [hb.cell (show (⟨w.heap.size,0,none⟩:Addr).block<_ by show w.heap.size<_;omega)];exact h.a0
 ·rw [hb.cell (show (⟨w.heap.size,1,none⟩:Addr).block<_ by show w.heap.size<_;omega)];exact h.a1
 ·rw [hb.cell (show (⟨w.heap.size+1,0,none⟩:Addr).block<_ by show w.heap.size+1<_;omega)];exact h.b0
 ·rw [hb.cell (show (⟨w.heap.size+1,1,none⟩:Addr).block<_ by show w.heap.size+1<_;omega)];exact h.b1
 ·rw [hb.cell (show (⟨w.heap.size+1+1,0,none⟩:Addr).block<_ by show w.heap.size+1+1<_;omega)];exact h.r0
 ·rw [hb.cell (show (⟨w.heap.size+1+1,1,none⟩:Addr).block<_ by show w.heap.size+1+1<_;omega)];exact h.r1
 ·rw [hb.frozen (show (⟨w.heap.size+1+1,0,none⟩:Addr).block<_ by show w.heap.size+1+1<_;omega)];exact h.f0
 rw [hb.frozen (show (⟨w.heap.size+1+1,1,none⟩:Addr).block<_ by show w.heap.size+1+1<_;omega)];exact h.f1
theorem zAd.drew {w W:World} {n0 n1:Bool} {s0 s1:Value} (h:zAd w W n0 n1 s0 s1):zAd w W.drew n0 n1 s0 s1:=⟨h.a0,h.a1,h.b0,h.b1,h.rb,h.r0,h.r1,h.f0,h.f1,h.bel.drew,h.size⟩
theorem zAe.store2 {w:World} {A:oAx} {xs:List Nat} {g:Nat} {b:Bool} {A0:oAx} {l0 c0:Nat} {t:TypeId} (h:zAe .u64 w A xs) (hg:w.heap[g]? = some (.cells #[.bool b,.slice A0 l0 c0] t (0,0))) (u v:Value) :
  zAe .u64 ((w.setCell ⟨g,0,none⟩ u).setCell ⟨g,1,none⟩ v) A xs:=by
 by_cases hne:xs=[]
 ·subst hne;exact zAe.nil _ _ _
 have ho:Off g A:=by
  intro b' off' e
  obtain ⟨b2,o2,e2,hlt,hc⟩:=h hne
  rw [e] at e2;injection e2 with e2;injection e2 with e2 e3
  subst e2 e3;rintro rfl;have h1:=hc 0 (by rcases xs with _|⟨x,xs⟩;exact absurd rfl hne;simp);rw [Nat.add_zero,cell_of_row _ _ _ _ _ _ hg] at h1
  rcases off' with _|_|off'
  ·simp at h1
  ·simp at h1
  simp at h1
 have h1:w.grownBy (w.setCell ⟨g,0,none⟩ u) (some g):=zRn (p:=⟨g,0,none⟩) (World.grownBy.refl w (some g)) (.inl rfl) u;have h2:w.grownBy ((w.setCell ⟨g,0,none⟩ u).setCell ⟨g,1,none⟩ v) (some g):=zRn (p:=⟨g,1,none⟩) h1 (.inl rfl) v;exact h.only h2 ho
theorem cell_far {w:World} {p q:Addr} (u:Value) (h:q.block≠p.block):(w.setCell p u).cell? q=w.cell? q:=World.cell?_of_block (w:=w) (Below.heap_setCell w p u q.block h)
def Four (w W:World) (n0 n1:Bool) (s0 s1:Value):Prop:=W.cell? ⟨w.heap.size,0,none⟩=some (.bool n0)/\W.cell? ⟨w.heap.size,1,none⟩=some s0/\W.cell? ⟨w.heap.size+1,0,none⟩=some (.bool n1)/\W.cell? ⟨w.heap.size+1,1,none⟩=some s1
theorem zAd.four {w W:World} {n0 n1:Bool} {s0 s1:Value} (h:zAd w W n0 n1 s0 s1):Four w W n0 n1 s0 s1:=⟨h.a0,h.a1,h.b0,h.b1⟩
theorem zAd.four_store {w W:World} {n0 n1:Bool} {s0 s1:Value} (h:zAd w W n0 n1 s0 s1) (x y:Value):Four w ((W.setCell ⟨w.heap.size+1+1,0,none⟩ x).setCell ⟨w.heap.size+1+1,1,none⟩ y) n0 n1 s0 s1:=by
 refine ⟨?_,?_,?_,?_⟩
 ·rw [cell_far _ (by show w.heap.size≠w.heap.size+1+1;omega),cell_far _ (by show w.heap.size≠w.heap.size+1+1;omega)];exact h.a0
 ·rw [cell_far _ (by show w.heap.size≠w.heap.size+1+1;omega),cell_far _ (by show w.heap.size≠w.heap.size+1+1;omega)];exact h.a1
 ·rw [cell_far _ (by show w.heap.size+1≠w.heap.size+1+1;omega),cell_far _ (by show w.heap.size+1≠w.heap.size+1+1;omega)];exact h.b0
 rw [cell_far _ (by show w.heap.size+1≠w.heap.size+1+1;omega),cell_far _ (by show w.heap.size+1≠w.heap.size+1+1;omega)];exact h.b1
structure Res (W:World) (g:Nat):Prop where
 rb:W.heap[g]? = some (.cells #[.bool false,.slice none 0 0] 158 (0,0))
theorem Res.r0 {W:World} {g:Nat} (h:Res W g):W.cell? ⟨g,0,none⟩=some (.bool false):=cell_of_row _ _ 0 _ _ (0,0) h.rb
theorem Res.r1 {W:World} {g:Nat} (h:Res W g):W.cell? ⟨g,1,none⟩=some (.slice none 0 0):=cell_of_row _ _ 1 _ _ (0,0) h.rb
theorem Res.f (i:Nat) {W:World} {g:Nat} (h:Res W g):W.frozen? ⟨g,i,none⟩=false:=frozen_of_row _ _ i _ _ h.rb
theorem Res.lt {W:World} {g:Nat} (h:Res W g):g<W.heap.size:=by
 rcases Nat.lt_or_ge g W.heap.size with hlt|hge
 ·exact hlt
 have:=h.rb;rw [Array.getElem?_eq_none hge] at this;cases this
theorem Res.below {W W':World} {g:Nat} (h:Res W g) (hb:Below W.heap.size W W'):Res W' g:=⟨(hb.block g h.lt).trans h.rb⟩
theorem Res.new (W:World):Res (W.alloc (.cells #[.bool false,.slice none 0 0] 158)) W.heap.size:=⟨heap_alloc_new W _⟩
theorem Res.end_ {w W:World} {g:Nat} {A:oAx} {c:Nat} {x y:Int} (h:Res W g) (hb:Below w.heap.size w W) (hg:w.heap.size<=g) (hc:zAe .u64 W A (limbs x.natAbs)) (hl:(limbs x.natAbs).length<=c) (e:x=y) :
  zFq w y (.returned (.agg #[.bool (decide (x<0)),.slice A (limbs x.natAbs).length c])) ((W.setCell ⟨g,0,none⟩ (.bool (decide (x<0)))).setCell ⟨g,1,none⟩ (.slice A (limbs x.natAbs).length c)):=by
 subst e;exact ⟨_,rfl,⟨_,rfl,zBv.mk hl (hc.store2 h.rb _ _)⟩,(hb.setCell (p:=⟨g,0,none⟩) hg _).setCell (p:=⟨g,1,none⟩) hg _⟩
theorem zFq.num {w w':World} {z:Int} {e:Ending} (h:zFq w z e w'):∃ (A:oAx) (c:Nat),e = .returned (.agg #[.bool (decide (z<0)),.slice A (limbs z.natAbs).length c])/\(limbs z.natAbs).length<=c/\zAe .u64 w' A (limbs z.natAbs)/\Below w.heap.size w w':=by
 obtain ⟨v,rfl,⟨s,rfl,A,c,rfl,hl,hc⟩,hb⟩:=h;exact ⟨A,c,rfl,hl,hc,hb⟩
theorem Neg_any (u:Value) (x:Int) (w:World) (hx:zBw w u x) (hlx:(limbs x.natAbs).length<=1000000000) :
  Calls Tryz.prog 152 #[u] w (zFq w (-x)):=by
 obtain ⟨_,rfl,A,c,rfl,hlc,hc⟩:=hx;have HC:=oH hc;generalize hna:decide (x<0)=na at *;have HNA:=oH hna;clear hc hna
 go_enter Tryz.func152,Tryz.ntmps152
 go_wp2_with fail;have hr:=Res.new (w.alloc (.cells #[.bool na,.slice A (limbs x.natAbs).length c] 158));have hb:Below w.heap.size w ((w.alloc (.cells #[.bool na,.slice A (limbs x.natAbs).length c] 158)).alloc (.cells #[.bool false,.slice none 0 0] 158)):=(bA).alloc sMx _;rw [World.size_alloc] at hr;generalize (w.alloc (.cells #[.bool na,.slice A (limbs x.natAbs).length c] 158)).alloc (.cells #[.bool false,.slice none 0 0] 158)=W at *;have HR:=oH hr;have HB:=oH hb;clear hr hb;refine (zRe (!na) _ x.natAbs _ (zBv.mk hlc (HC.below HB.out)) hlx).mono ?_
 intro e w2 hret
 obtain ⟨A3,c3,rfl,hl3,hc3,hb3⟩:=hret.num;have HC3:=oH hc3;have HB3:=oH hb3;have HR3:=oH (HR.below hb3);have hr0:=HR3.r0;have hr1:=HR3.r1;have hf0:=HR3.f 0;have hf1:=HR3.f 1;clear hret hc3 hb3;go_wp2_with fail;refine bodyPost_ret (v := .agg #[.bool (decide (sgn (!na) x.natAbs<0)),.slice A3 (limbs (sgn (!na) x.natAbs).natAbs).length c3]) (by simp [results,Tryz.results152,go_sem,hr0,hr1]) rfl ?_;refine HR3.end_ (HB.trans (HB3.mono HB.size)) oMx HC3.out hl3 ?_;rw [<-HNA.out];unfold sgn
 by_cases h:x<0<;>simp [h]<;>omega
theorem Gcd_any (u v:Value) (x y:Int) (w:World) (hx:zBw w u x) (hy:zBw w v y) (hlx:(limbs x.natAbs).length<=100000000) (hly:(limbs y.natAbs).length<=100000000) :
  Calls Tryz.prog 131 #[u,v] w (zFq w (Nat.gcd x.natAbs y.natAbs:Nat)):=by
 obtain ⟨_,rfl,A,c,rfl,hlc,hc⟩:=hx;obtain ⟨_,rfl,A',c',rfl,hlc',hc'⟩:=hy;have HC:=oH hc;have HC':=oH hc';generalize decide (x<0)=na at *;generalize decide (y<0)=nb at *;clear hc hc'
 go_enter Tryz.func131,Tryz.ntmps131
 go_wp2_with fail;have hbx:=boxes w na nb (.slice A (limbs x.natAbs).length c) (.slice A' (limbs y.natAbs).length c');generalize ((w.alloc (.cells #[.bool na,.slice A (limbs x.natAbs).length c] 158)).alloc (.cells #[.bool nb,.slice A' (limbs y.natAbs).length c'] 158)).alloc (.cells #[.bool false,.slice none 0 0] 158)=W at *;have HBX:=oH hbx;clear hbx;refine (gcd_any A A' x.natAbs y.natAbs c c' W (HC.below HBX.bel) (HC'.below HBX.bel) hlx hly hlc hlc').mono ?_;rintro e w2 ⟨v2,rfl,hv2,hb2⟩;have HV2:=oH hv2;have HB2:=oH hb2;clear hv2 hb2;go_wp2_with fail
 have hgl:(limbs (Nat.gcd x.natAbs y.natAbs)).length<=100000000:=by
  rcases Nat.eq_zero_or_pos x.natAbs with e|e
  ·rw [e,Nat.gcd_zero_left];exact hly
  exact Nat.le_trans (zPd (Nat.gcd_le_left _ e)) hlx
 refine (zRe false v2 (Nat.gcd x.natAbs y.natAbs) w2 HV2.out oMx).mono ?_
 intro e w3 hret
 obtain ⟨A3,c3,rfl,hl3,hc3,hb3⟩:=hret.num;have HC3:=oH hc3;have HBX3:=oH ((HBX.below HB2.out).below hb3);have hr0:=HBX3.r0;have hr1:=HBX3.r1;have hf0:=HBX3.f0;have hf1:=HBX3.f1;clear hret hc3 hb3;go_wp2_with fail;refine bodyPost_ret (v := .agg #[.bool (decide (sgn false (Nat.gcd x.natAbs y.natAbs)<0)),.slice A3 (limbs (sgn false (Nat.gcd x.natAbs y.natAbs)).natAbs).length c3]) (by simp [results,Tryz.results131,go_sem,hr0,hr1]) rfl ?_;exact Res.end_ ⟨HBX3.rb⟩ HBX3.bel oMx HC3.out hl3 rfl
def sg (z:Int):Int:=if z<0 then -1 else if 0<z then 1 else 0
theorem Sign_any (u:Value) (x:Int) (w:World) (hx:zBw w u x) (_hlx:(limbs x.natAbs).length<=1000000000) :
  Calls Tryz.prog 144 #[u] w fun e w'=>e = .returned (.int .i64 (sg x))/\Below w.heap.size w w':=by
 obtain ⟨_,rfl,A,c,rfl,hlc,hc⟩:=hx;have hp:0<(limbs x.natAbs).length↔x.natAbs≠0:=zPf
 by_cases h1:x<0
 ·have E:=oH (show sg x = -1 by simp [sg,h1])
  have hd:decide (x<0)=true:=by simp [h1]
  rw [hd];clear hd hp hc
  go_enter Tryz.func144,Tryz.ntmps144
  go_wp2_with fail;go_ret
  exact ⟨by rw [E.out];rfl,bA⟩
 have hd:decide (x<0)=false:=by simp [h1]
 rw [hd]
 by_cases h2:0<x
 ·have E:=oH (show sg x=1 by simp [sg,h1,h2]);have hl:0<(limbs x.natAbs).length:=hp.2 oMx;clear hd hp hc
  go_enter Tryz.func144,Tryz.ntmps144
  go_wp2_with fail;go_ret
  exact ⟨by rw [E.out];rfl,bA⟩
 have E:=oH (show sg x=0 by simp [sg,h1,h2])
 have hl:¬0<(limbs x.natAbs).length:=fun h=>hp.1 h oMx
 clear hd hp hc
 go_enter Tryz.func144,Tryz.ntmps144
 go_wp2_with fail;go_ret
 exact ⟨by rw [E.out];rfl,bA⟩
open Go.RowKit Go.Sort
def Tab (w:World):Prop:=Lib.TabIs Tryz.prog w "internal/strconv.uint64pow10" .u64 Lib.pow10Tab
theorem Tab.below {w w':World} (h:Tab w) (hb:Below w.heap.size w w'):Tab w':=by
 unfold Tab Lib.TabIs World.var? at *
 cases hg:Tryz.prog.globalNamed "internal/strconv.uint64pow10" with
 | none=>simp [hg] at h
 | some g =>
  simp only [hg,Option.bind_some] at h ⊢
  have hlt:g<w.heap.size:=by
   rcases Nat.lt_or_ge g w.heap.size with h'|h'
   ·exact h'
   rw [Array.getElem?_eq_none h'] at h;simp at h
  rw [hb.block g hlt];exact h
open Go.RowKit
def strD (n k:Nat):List UInt8:=if k=(limbs n).length then [] else Lib.decDigits (val ((limbs n).drop k))
def sgB (b:Bool):List UInt8:=if b then [45] else []
theorem zNw (x:Int) (h:x≠0):Lib.itoa x=sgB (decide (x<0))++strD x.natAbs 0:=by
 have h1:0≠(limbs x.natAbs).length:=by have:=zPf.2 (show x.natAbs≠0 by omega);omega
 rw [strD,if_neg h1,List.drop_zero,zYj];unfold Lib.itoa sgB
 by_cases hx:x<0
 ·simp [hx]
 simp [hx];congr 1;omega
theorem zNb (l:List UInt8) (h:zAw l):Lib.hasPrefix l [45]=false:=by
 cases l with
 | nil=>rfl
 | cons c l =>
  have:=h.head;unfold zBu at this;simp only [Lib.hasPrefix,List.isPrefixOf_cons_cons,List.isPrefixOf_nil_left,Bool.and_true,beq_eq_false_iff_ne]
  intro e
  have:=congrArg UInt8.toNat e
  simp at this
  omega
theorem zNz (x:Int):Lib.hasPrefix (Lib.itoa x) [45]=decide (x<0)/\Lib.trimPrefix (Lib.itoa x) [45]=Lib.decDigits x.natAbs:=by
 unfold Lib.itoa
 by_cases hx:x<0
 ·rw [if_pos hx]
  simp [Lib.hasPrefix,Lib.trimPrefix,hx]
 rw [if_neg hx];have h1:=zNb _ (zKo x.toNat);refine ⟨by rw [h1];simp [hx],?_⟩;rw [Lib.trimPrefix,h1]
 simp
 congr 1
 omega
theorem zRu {w:World} {B e:Nat} {v:Value} {xs:List Nat} (h:w.ownsRow B e 1 v xs.length (xs.map fun x:Nat=>Value.int .u64 (x:Int))):∃ A c,v = .slice A xs.length c/\xs.length<=c/\zAe .u64 w A xs:=by
 rcases h.2 with ⟨hv,h0⟩|⟨g,cap,cur,hv,hB,hg,hle,hm,hs,htake⟩
 ·have:xs=[]:=by simpa using h0
  subst this;exact ⟨none,0,hv,by simp,zAe.nil _ _ _⟩
 refine ⟨_,cap,hv,hle,fun _=>⟨g,0,rfl,?_,fun i hi=>?_⟩⟩
 ·rcases Nat.lt_or_ge g w.heap.size with h'|h'
  ·exact h'
  rw [Array.getElem?_eq_none h'] at hg;cases hg
 subst hv;have:=h.cellAt i oMx;rw [Nat.zero_add,this,zQz hi]
 simp [hi]
theorem zFe (x:Int) (w:World) (hl:(Lib.decDigits x.natAbs).length<=10000000) :
  Calls Tryz.prog 130 #[.string ⟨(Lib.itoa x).toArray⟩] w (zFq w x):=by
 have HP:=oH (Tryz.strings_CutPrefix ⟨(Lib.itoa x).toArray⟩ ⟨#[45]⟩);have hpe:=zNz x
 have e1:(⟨(Lib.itoa x).toArray⟩:ByteArray).data.toList=Lib.itoa x:=by simp
 have e2:(⟨#[45]⟩:ByteArray).data.toList=[45]:=rfl;rw [e1,e2,hpe.1,hpe.2] at HP;clear e1 e2 hpe;have HSG:=oH (sgn_self x);generalize decide (x<0)=na at *;generalize hnn:x.natAbs=n at *;clear hnn;have hdp:=Lib.nDigits_pos n;rw [<-Lib.decDigits_length] at hdp;obtain ⟨i0,hi,hz0,hz1,hz2⟩:=info_parts Tryz.infoU64
 go_enter Tryz.func130,Tryz.ntmps130
 go_wp2_with fail;refine (HP.out _).mono ?_;rintro e w1 ⟨rfl,rfl⟩;clear HP;go_wp2_with fail;have hr:=Res.new w;have hb0:Below w.heap.size w (w.alloc (.cells #[.bool false,.slice none 0 0] 158)):=bA
 have hs0:(w.alloc (.cells #[.bool false,.slice none 0 0] 158)).heap.size=w.heap.size+1:=by simp
 generalize w.alloc (.cells #[.bool false,.slice none 0 0] 158)=W0 at *;have HR:=oH hr;have HB0:=oH hb0;have HS0:=oH hs0;clear hr hb0 hs0
 go_loopw [5,6] (fun v ix wr=>∃ k:Nat,ix = .int .i64 (((Lib.decDigits n).length:Int)-9*(k:Int))/\9*k<(Lib.decDigits n).length+9/\wr.ownsRow (w.heap.size+1) 167 1 v (zOq n k).length ((zOq n k).map fun x:Nat=>Value.int .u64 (x:Int))/\Below (w.heap.size+1) W0 wr) (fun _ ix _=>(intOf ix).toNat)
 ·exact ⟨0,by simp,oMx,World.ownsRow_nil _ _ _ _,bRx⟩
 obtain ⟨k,rfl,hk,hown,hbr⟩:=hrel;have HOWN:=oH hown;have HBR:=oH hbr
 have hsr:w.heap.size+1<=wr.heap.size:=by have:=hbr.size;have:=HS0.out;omega
 clear hown hbr
 by_cases hlt:9*k<(Lib.decDigits n).length
 ·have hcv:=zJt n k hlt
  have hcl:(((Lib.decDigits n).take ((Lib.decDigits n).length-9*k)).drop ((Lib.decDigits n).length-9*k-9)).length=(Lib.decDigits n).length-9*k-((Lib.decDigits n).length-9*k-9):=by rw [List.length_drop,List.length_take];omega
  have hpu:=zSi (((zKo n).take ((Lib.decDigits n).length-9*k)).drop ((Lib.decDigits n).length-9*k-9)) (by intro e;rw [e] at hcl;simp at hcl;omega) oMx;rw [hcv] at hpu
  have hex:(((⟨(Lib.decDigits n).toArray⟩:ByteArray).extract (max 0 (((Lib.decDigits n).length:Int)-9*(k:Int)-9)).toNat ((Lib.decDigits n).length-9*k)).data.toList)=(((Lib.decDigits n).take ((Lib.decDigits n).length-9*k)).drop ((Lib.decDigits n).length-9*k-9)):=by
   rw [show (max 0 (((Lib.decDigits n).length:Int)-9*(k:Int)-9)).toNat=(Lib.decDigits n).length-9*k-9 by omega,Lib.extract_data,List.drop_take]
  have HPU:=oH (Tryz.strconv_ParseUint_10_at64_ok ((⟨(Lib.decDigits n).toArray⟩:ByteArray).extract (max 0 (((Lib.decDigits n).length:Int)-9*(k:Int)-9)).toNat ((Lib.decDigits n).length-9*k)) (by
   show (ByteArray.extract _ _ _).data.size<=_
   have:=congrArg List.length hex;rw [Array.length_toList] at this
   rw [this,hcl];omega) (n/1000000000^k%1000000000) (by rw [hex];exact hpu) wr)
  clear hcv hcl hpu hex;go_wp2_with fail;refine HPU.mono ?_;rintro e w2 ⟨rfl,hw2⟩
  have hb2:Below wr.heap.size wr w2:=by
   rcases hw2 with h|h
   ·rw [h];exact bRx
   rw [h];exact Lib.bytesWorld_below _ _ _
  have hs2:=hb2.size
  have hown2:w2.ownsRow (w.heap.size+1) 167 1 u5 (zOq n k).length ((zOq n k).map fun x:Nat=>Value.int .u64 (x:Int)):=HOWN.kept (row:=none) ⟨hb2.os,hb2.tape,hb2.output,hb2.size,fun k hk _=>hb2.block k hk⟩ (by
   rcases hv:u5.ownBlock with _|g
   ·exact .inl rfl
   exact .inr sMx)
  have HOWN2:=oH hown2;have HB2:=oH (HBR.trans (hb2.mono hsr));have hll:=zOr n k;have HLL:=oH hll;clear hw2 hb2 hown2 HOWN HPU
  have hkl:(zOq n k).length<=10000000:=by omega
  clear hll;have hm:=Nat.mod_lt (n/1000000000^k) (show 0<1000000000 by omega);have ES:=oH (zOt n k);generalize n/1000000000^k%1000000000=lb at *
  go_wp2_with (at_builtin;refine wpList_append_own _ rfl _ _ 156 rfl (w.heap.size+1) 167 i0 (.int .u64 0) 1 8 Tryz.underlying156 hi hz0 hz1 hz2 rfl dCx _ _ _ rfl (HOWN2.alloc _) ⟨w2.heap.size,0,none⟩ 1 1 [.int .u64 lb] rfl rfl ?c1 ?c2 ?c3 ?c4 ?c5 ?_)
  case c1 =>
   intro j u hj
   match j,hj with
   | 0,hj=>simp at hj;subst hj;simp [Addr.add]
  case c2=>intro u hu;simp at hu;subst hu;rfl
  case c3=>unfold maxLen;omega
  case c4=>omega
  case c5=>simp;omega
  intro v' w3 hown3 hgrow3 _
  have hb3:Below (w.heap.size+1) W0 w3:=(HB2.alloc oMx _).grown hgrow3 (by simp;omega) (fun g hg=>((HOWN2.lt g hg).1))
  have HOWN3:Hid (w3.ownsRow (w.heap.size+1) 167 1 v' (zOq n (k+1)).length ((zOq n (k+1)).map fun x:Nat=>Value.int .u64 (x:Int))):=by
   rw [ES.out];refine oH ?_
   simpa using hown3
  have HB3:=oH hb3;clear hown3 hgrow3 hb3;go_wp2_with fail;go_roundw
  ·exact ⟨k+1,by go_num,oMx,HOWN3.out,HB3.out⟩
  simp [intOf];omega
 obtain ⟨A,c,rfl,hlc,hcl⟩:=zRu HOWN.out;have hll:=zOr n k;have HTR:=oH (zXo A (zOq n k) c wr hcl oMx hlc);rw [zOu (zPt oMx)] at HTR;have HCT:=oH (hcl.take (zXh (zOq n k)).length);rw [<-zXl,zOu (zPt oMx)] at HCT
 have hnl:(limbs n).length<=c:=by
  have h1:=zXi (zOq n k);rw [zOu (zPt oMx)] at h1;omega
 have hnk:(limbs n).length<=10000000:=by
  have h1:=zXi (zOq n k);rw [zOu (zPt oMx)] at h1;omega
 have HLL:=oH hll;clear hcl hll HOWN hi hz0 hz1 hz2;go_wp2_with fail;refine HTR.mono ?_;rintro e w' ⟨rfl,rfl⟩;clear HTR;go_wp2_with fail;refine (zRe na _ n _ (zBv.mk hnl HCT.out) oMx).mono ?_
 intro e w3 hret
 obtain ⟨A3,c3,rfl,hl3,hc3,hb3⟩:=hret.num
 have hrw:Below W0.heap.size W0 wr:=by rw [HS0.out];exact HBR.out
 have HR3:=oH ((HR.below hrw).below hb3);have HC3:=oH hc3;have HB3:=oH ((HB0.trans (hrw.mono HB0.size)).trans (hb3.mono oMx));have hr0:=HR3.r0;have hr1:=HR3.r1;have hf0:=HR3.f 0;have hf1:=HR3.f 1;clear hret hc3 hb3 hrw;go_wp2_with fail;refine bodyPost_ret (v := .agg #[.bool (decide (sgn na n<0)),.slice A3 (limbs (sgn na n).natAbs).length c3]) (by simp [results,Tryz.results130,go_sem,hr0,hr1]) rfl ?_;exact HR3.end_ HB3.out lRx HC3.out hl3 HSG.out
theorem sgn_add (x y:Int) (h:decide (x<0)=decide (y<0)):sgn (decide (x<0)) (x.natAbs+y.natAbs)=x+y:=by
 unfold sgn
 by_cases hx:x<0
 ·have hy:y<0:=by have:=h;simp [hx] at this;exact this
  simp [hx];omega
 have hy:¬y<0:=by have:=h;simp [hx] at this;omega
 simp [hx];omega
theorem zVk (x y:Int) (h:decide (x<0)≠decide (y<0)) (hle:y.natAbs<=x.natAbs):sgn (decide (x<0)) (x.natAbs-y.natAbs)=x+y:=by
 unfold sgn
 by_cases hx:x<0
 ·have hy:¬y<0:=by intro hy;simp [hx,hy] at h
  simp [hx];omega
 have hy:y<0:=by
  apply Decidable.byContradiction
  intro hy
  simp [hx,hy] at h
 simp [hx];omega
theorem Add_same (u v:Value) (x y:Int) (w:World) (hx:zBw w u x) (hy:zBw w v y) (hlx:(limbs x.natAbs).length<=100000000) (hly:(limbs y.natAbs).length<=100000000) (hq:decide (x<0)=decide (y<0)) :
  Calls Tryz.prog 151 #[u,v] w (zFq w (x+y)):=by
 obtain ⟨_,rfl,A,c,rfl,hlc,hc⟩:=hx;obtain ⟨_,rfl,A',c',rfl,hlc',hc'⟩:=hy;have HC:=oH hc;have HC':=oH hc';have HQ:=oH hq
 have hq':(decide (x<0)==decide (y<0))=true:=by rw [hq];simp
 clear hq;generalize hna:decide (x<0)=na at *;generalize hnb:decide (y<0)=nb at *;have HNA:=oH hna;have HNB:=oH hnb;clear hc hc' hna hnb
 go_enter Tryz.func151,Tryz.ntmps151
 go_upto_region 1 with (fail);have hbx:=boxes w na nb (.slice A (limbs x.natAbs).length c) (.slice A' (limbs y.natAbs).length c');generalize ((w.alloc (.cells #[.bool na,.slice A (limbs x.natAbs).length c] 158)).alloc (.cells #[.bool nb,.slice A' (limbs y.natAbs).length c'] 158)).alloc (.cells #[.bool false,.slice none 0 0] 158)=W at *;have HBX:=oH hbx;have ha0:=hbx.a0;have ha1:=hbx.a1;have hb0:=hbx.b0;have hb1:=hbx.b1;have HM:=oH (fun (V:World) (hV:Below w.heap.size w V)=>add_any A A' x.natAbs y.natAbs c c' V (HC.below hV) (HC'.below hV) hlx hly);clear hbx;go_wp2_with fail
 go_region_held3 (fun w'=>w'.cell? ⟨w.heap.size,0,none⟩=some (.bool na)/\w'.cell? ⟨w.heap.size,1,none⟩=some (.slice A (limbs x.natAbs).length c)/\w'.cell? ⟨w.heap.size+1,0,none⟩=some (.bool nb)/\w'.cell? ⟨w.heap.size+1,1,none⟩=some (.slice A' (limbs y.natAbs).length c'))
  (first|exact HBX3.four_store _ _|exact HBX3.four|exact HBX2.four|go_keep)
  (first|(go_at_call 168;refine (HM.out _ (by exact HBX.drew.bel)).mono ?_;rintro e w2 ⟨v2,rfl,hv2,hb2⟩;have HBX2:=oH (HBX.drew.below hb2);have HV2:=oH hv2;clear hv2 hb2)|(go_at_call 140;refine (zRe _ _ _ _ HV2.out (Nat.le_trans (zPa _ _) oMx)).mono ?_;intro e w3 hret;obtain ⟨A3,c3,rfl,hl3,hs3,hb3⟩:=hret.num;have HBX3:=oH (HBX2.below hb3);have HS3:=oH hs3;have hr0:=HBX3.r0;have hr1:=HBX3.r1;have hf0:=HBX3.f0;have hf1:=HBX3.f1;clear hb3 hs3 hret))
 go_wp2_with fail;refine bodyPost_ret (v := .agg #[.bool (decide (sgn na (x.natAbs+y.natAbs)<0)),.slice A3 (limbs (sgn na (x.natAbs+y.natAbs)).natAbs).length c3]) (by simp [results,Tryz.results151,go_sem,hr0,hr1]) rfl ?_;exact Res.end_ ⟨HBX3.rb⟩ HBX3.bel oMx HS3.out hl3 (by rw [<-HNA.out,sgn_add x y (by rw [HNA.out,HNB.out];exact HQ.out)])
theorem Add_ge (u v:Value) (x y:Int) (w:World) (hx:zBw w u x) (hy:zBw w v y) (hlx:(limbs x.natAbs).length<=100000000) (hly:(limbs y.natAbs).length<=100000000) (hq:decide (x<0)≠decide (y<0)) (hle:y.natAbs<=x.natAbs) :
  Calls Tryz.prog 151 #[u,v] w (zFq w (x+y)):=by
 obtain ⟨_,rfl,A,c,rfl,hlc,hc⟩:=hx;obtain ⟨_,rfl,A',c',rfl,hlc',hc'⟩:=hy;have HC:=oH hc;have HC':=oH hc';have HQ:=oH hq
 have hq':(decide (x<0)==decide (y<0))=false:=by simp only [beq_eq_false_iff_ne];exact hq
 clear hq;obtain ⟨cm,hcm,hcm0⟩:∃ cm:Int,cm=zJx x.natAbs y.natAbs/\0<=cm:=⟨_,rfl,by rcases Nat.lt_or_eq_of_le hle with h|h;(rw [zJz h];omega);(rw [zJy h.symm];omega)⟩;have HCM:=oH hcm;clear hcm;generalize hna:decide (x<0)=na at *;generalize hnb:decide (y<0)=nb at *;have HNA:=oH hna;have HNB:=oH hnb;clear hc hc' hna hnb
 go_enter Tryz.func151,Tryz.ntmps151
 go_upto_region 1 with (fail);have hbx:=boxes w na nb (.slice A (limbs x.natAbs).length c) (.slice A' (limbs y.natAbs).length c');generalize ((w.alloc (.cells #[.bool na,.slice A (limbs x.natAbs).length c] 158)).alloc (.cells #[.bool nb,.slice A' (limbs y.natAbs).length c'] 158)).alloc (.cells #[.bool false,.slice none 0 0] 158)=W at *;have HBX:=oH hbx;have ha0:=hbx.a0;have ha1:=hbx.a1;have hb0:=hbx.b0;have hb1:=hbx.b1;have HM:=oH (fun (V:World) (hV:Below w.heap.size w V)=>zWr A A' x.natAbs y.natAbs c c' V (HC.below hV) (HC'.below hV) hlx hle);clear hbx;have HCMP:=oH (zKb A A' x.natAbs y.natAbs c c' W (HC.below HBX.bel) (HC'.below HBX.bel) oMx oMx);rw [<-HCM.out] at HCMP;go_wp2_with fail;refine HCMP.mono ?_;rintro e w' ⟨rfl,m,rfl⟩;clear HCMP;have HBXm:zAd w (W.drewN m) na nb (.slice A (limbs x.natAbs).length c) (.slice A' (limbs y.natAbs).length c'):=⟨HBX.a0,HBX.a1,HBX.b0,HBX.b1,HBX.rb,HBX.r0,HBX.r1,HBX.f0,HBX.f1,below_drewN HBX.bel m,HBX.size⟩
 clear HBX;have HBX:=oH HBXm;clear HBXm;go_wp2_with fail
 go_region_held3 (fun w'=>w'.cell? ⟨w.heap.size,0,none⟩=some (.bool na)/\w'.cell? ⟨w.heap.size,1,none⟩=some (.slice A (limbs x.natAbs).length c)/\w'.cell? ⟨w.heap.size+1,0,none⟩=some (.bool nb)/\w'.cell? ⟨w.heap.size+1,1,none⟩=some (.slice A' (limbs y.natAbs).length c'))
  (first|exact HBX3.four_store _ _|exact HBX3.four|exact HBX2.four|go_keep)
  (first|(go_at_call 169;refine (HM.out _ (by exact HBX.drew.bel)).mono ?_;rintro e w2 ⟨v2,rfl,hv2,hb2⟩;have HBX2:=oH (HBX.drew.below hb2);have HV2:=oH hv2;clear hv2 hb2)|(go_at_call 140;refine (zRe _ _ _ _ HV2.out (Nat.le_trans (zPd (Nat.sub_le _ _)) oMx)).mono ?_;intro e w3 hret;obtain ⟨A3,c3,rfl,hl3,hs3,hb3⟩:=hret.num;have HBX3:=oH (HBX2.below hb3);have HS3:=oH hs3;have hr0:=HBX3.r0;have hr1:=HBX3.r1;have hf0:=HBX3.f0;have hf1:=HBX3.f1;clear hb3 hs3 hret))
 go_wp2_with fail;refine bodyPost_ret (v := .agg #[.bool (decide (sgn na (x.natAbs-y.natAbs)<0)),.slice A3 (limbs (sgn na (x.natAbs-y.natAbs)).natAbs).length c3]) (by simp [results,Tryz.results151,go_sem,hr0,hr1]) rfl ?_;exact Res.end_ ⟨HBX3.rb⟩ HBX3.bel oMx HS3.out hl3 (by rw [<-HNA.out,zVk x y (by rw [HNA.out,HNB.out];exact HQ.out) hle])
theorem Add_lt (u v:Value) (x y:Int) (w:World) (hx:zBw w u x) (hy:zBw w v y) (hlx:(limbs x.natAbs).length<=100000000) (hly:(limbs y.natAbs).length<=100000000) (hq:decide (x<0)≠decide (y<0)) (hle:x.natAbs<y.natAbs) :
  Calls Tryz.prog 151 #[u,v] w (zFq w (x+y)):=by
 obtain ⟨_,rfl,A,c,rfl,hlc,hc⟩:=hx;obtain ⟨_,rfl,A',c',rfl,hlc',hc'⟩:=hy;have HC:=oH hc;have HC':=oH hc';have HQ:=oH hq
 have hq':(decide (x<0)==decide (y<0))=false:=by simp only [beq_eq_false_iff_ne];exact hq
 clear hq;obtain ⟨cm,hcm,hcm0⟩:∃ cm:Int,cm=zJx x.natAbs y.natAbs/\cm<0:=⟨_,rfl,by rw [zKa hle];omega⟩;have HCM:=oH hcm;clear hcm;generalize hna:decide (x<0)=na at *;generalize hnb:decide (y<0)=nb at *;have HNA:=oH hna;have HNB:=oH hnb;clear hc hc' hna hnb
 go_enter Tryz.func151,Tryz.ntmps151
 go_upto_region 1 with (fail);have hbx:=boxes w na nb (.slice A (limbs x.natAbs).length c) (.slice A' (limbs y.natAbs).length c');generalize ((w.alloc (.cells #[.bool na,.slice A (limbs x.natAbs).length c] 158)).alloc (.cells #[.bool nb,.slice A' (limbs y.natAbs).length c'] 158)).alloc (.cells #[.bool false,.slice none 0 0] 158)=W at *;have HBX:=oH hbx;have ha0:=hbx.a0;have ha1:=hbx.a1;have hb0:=hbx.b0;have hb1:=hbx.b1;have HM:=oH (fun (V:World) (hV:Below w.heap.size w V)=>zWr A' A y.natAbs x.natAbs c' c V (HC'.below hV) (HC.below hV) hly (Nat.le_of_lt hle));clear hbx;have HCMP:=oH (zKb A A' x.natAbs y.natAbs c c' W (HC.below HBX.bel) (HC'.below HBX.bel) oMx oMx);rw [<-HCM.out] at HCMP;go_wp2_with fail;refine HCMP.mono ?_;rintro e w' ⟨rfl,m,rfl⟩;clear HCMP;have HBXm:zAd w (W.drewN m) na nb (.slice A (limbs x.natAbs).length c) (.slice A' (limbs y.natAbs).length c'):=⟨HBX.a0,HBX.a1,HBX.b0,HBX.b1,HBX.rb,HBX.r0,HBX.r1,HBX.f0,HBX.f1,below_drewN HBX.bel m,HBX.size⟩
 clear HBX;have HBX:=oH HBXm;clear HBXm;go_wp2_with fail
 go_region_held3 (fun w'=>w'.cell? ⟨w.heap.size,0,none⟩=some (.bool na)/\w'.cell? ⟨w.heap.size,1,none⟩=some (.slice A (limbs x.natAbs).length c)/\w'.cell? ⟨w.heap.size+1,0,none⟩=some (.bool nb)/\w'.cell? ⟨w.heap.size+1,1,none⟩=some (.slice A' (limbs y.natAbs).length c'))
  (first|exact HBX3.four_store _ _|exact HBX3.four|exact HBX2.four|go_keep)
  (first|(go_at_call 169;refine (HM.out _ (by exact HBX.drew.bel)).mono ?_;rintro e w2 ⟨v2,rfl,hv2,hb2⟩;have HBX2:=oH (HBX.drew.below hb2);have HV2:=oH hv2;clear hv2 hb2)|(go_at_call 140;refine (zRe _ _ _ _ HV2.out (Nat.le_trans (zPd (Nat.sub_le _ _)) oMx)).mono ?_;intro e w3 hret;obtain ⟨A3,c3,rfl,hl3,hs3,hb3⟩:=hret.num;have HBX3:=oH (HBX2.below hb3);have HS3:=oH hs3;have hr0:=HBX3.r0;have hr1:=HBX3.r1;have hf0:=HBX3.f0;have hf1:=HBX3.f1;clear hb3 hs3 hret))
 go_wp2_with fail;refine bodyPost_ret (v := .agg #[.bool (decide (sgn nb (y.natAbs-x.natAbs)<0)),.slice A3 (limbs (sgn nb (y.natAbs-x.natAbs)).natAbs).length c3]) (by simp [results,Tryz.results151,go_sem,hr0,hr1]) rfl ?_;exact Res.end_ ⟨HBX3.rb⟩ HBX3.bel oMx HS3.out hl3 (by rw [<-HNB.out,zVk y x (by rw [HNA.out,HNB.out];exact Ne.symm HQ.out) (Nat.le_of_lt hle),Int.add_comm])
theorem Add_any (u v:Value) (x y:Int) (w:World) (hx:zBw w u x) (hy:zBw w v y) (hlx:(limbs x.natAbs).length<=100000000) (hly:(limbs y.natAbs).length<=100000000) :
  Calls Tryz.prog 151 #[u,v] w (zFq w (x+y)):=by
 by_cases hq:decide (x<0)=decide (y<0)
 ·exact Add_same u v x y w hx hy hlx hly hq
 rcases Nat.lt_or_ge x.natAbs y.natAbs with h|h
 ·exact Add_lt u v x y w hx hy hlx hly hq h
 exact Add_ge u v x y w hx hy hlx hly hq h
theorem Sub_any (u v:Value) (x y:Int) (w:World) (hx:zBw w u x) (hy:zBw w v y) (hlx:(limbs x.natAbs).length<=100000000) (hly:(limbs y.natAbs).length<=100000000) :
  Calls Tryz.prog 143 #[u,v] w (zFq w (x-y)):=by
 have HX:=oH hx;have HY:=oH hy;obtain ⟨_,rfl,A,c,rfl,hlc,hc⟩:=hx;obtain ⟨_,rfl,A',c',rfl,hlc',hc'⟩:=hy;generalize decide (x<0)=na at *;generalize decide (y<0)=nb at *;clear hc hc'
 go_enter Tryz.func143,Tryz.ntmps143
 go_upto_region 1 with (fail);have hbx:=boxes w na nb (.slice A (limbs x.natAbs).length c) (.slice A' (limbs y.natAbs).length c');generalize ((w.alloc (.cells #[.bool na,.slice A (limbs x.natAbs).length c] 158)).alloc (.cells #[.bool nb,.slice A' (limbs y.natAbs).length c'] 158)).alloc (.cells #[.bool false,.slice none 0 0] 158)=W at *;have HBX:=oH hbx;have ha0:=hbx.a0;have ha1:=hbx.a1;have hb0:=hbx.b0;have hb1:=hbx.b1;have HN:=oH (fun (V:World) (hV:Below w.heap.size w V)=>Neg_any _ y V (HY.below hV) oMx);clear hbx
 go_region_held3 (fun w'=>w'.cell? ⟨w.heap.size,0,none⟩=some (.bool na)/\w'.cell? ⟨w.heap.size,1,none⟩=some (.slice A (limbs x.natAbs).length c)/\w'.cell? ⟨w.heap.size+1,0,none⟩=some (.bool nb)/\w'.cell? ⟨w.heap.size+1,1,none⟩=some (.slice A' (limbs y.natAbs).length c'))
  (first|exact HBX3.four_store _ _|exact HBX3.four|exact HBX2.four|go_keep)
  (first|(go_at_call 152;refine (HN.out _ (by exact HBX.drew.bel)).mono ?_;rintro e w2 ⟨v2,rfl,hv2,hb2⟩;have HBX2:=oH (HBX.drew.below hb2);have HV2:=oH hv2;clear hv2 hb2)|(go_at_call 151;refine (Add_any _ _ x (-y) _ (HX.below HBX2.bel) HV2.out hlx (by rw [Int.natAbs_neg];exact hly)).mono ?_;intro e w3 hret;obtain ⟨A3,c3,rfl,hl3,hs3,hb3⟩:=hret.num;have HBX3:=oH (HBX2.below hb3);have HS3:=oH hs3;have hr0:=HBX3.r0;have hr1:=HBX3.r1;have hf0:=HBX3.f0;have hf1:=HBX3.f1;clear hb3 hs3 hret))
 go_wp2_with fail;refine bodyPost_ret (v := .agg #[.bool (decide (x + -y<0)),.slice A3 (limbs (x + -y).natAbs).length c3]) (by simp [results,Tryz.results143,go_sem,hr0,hr1]) rfl ?_;exact Res.end_ ⟨HBX3.rb⟩ HBX3.bel oMx HS3.out hl3 rfl
theorem zPe {x y:Int} {k:Nat} (hx:(limbs x.natAbs).length<=k) (hy:(limbs y.natAbs).length<=k):(limbs (x-y).natAbs).length<=k+1:=by
 have h1:=zPd (show (x-y).natAbs<=x.natAbs+y.natAbs by omega);have h2:=zPa x.natAbs y.natAbs;omega
theorem zAj (u v:Value) (x y:Int) (w:World) (hx:zBw w u x) (hy:zBw w v y) (hlx:(limbs x.natAbs).length<=100000000) (hly:(limbs y.natAbs).length<=100000000) :
  Calls Tryz.prog 132 #[u,v] w fun e w'=>e = .returned (.int .i64 (sg (x-y)))/\Below w.heap.size w w':=by
 have HX:=oH hx;have HY:=oH hy;obtain ⟨_,rfl,A,c,rfl,hlc,hc⟩:=hx;obtain ⟨_,rfl,A',c',rfl,hlc',hc'⟩:=hy;generalize decide (x<0)=na at *;generalize decide (y<0)=nb at *;clear hc hc'
 go_enter Tryz.func132,Tryz.ntmps132
 go_wp2_with fail;have hb:Below w.heap.size w ((w.alloc (.cells #[.bool na,.slice A (limbs x.natAbs).length c] 158)).alloc (.cells #[.bool nb,.slice A' (limbs y.natAbs).length c'] 158)):=(bA).alloc sMx _;generalize (w.alloc (.cells #[.bool na,.slice A (limbs x.natAbs).length c] 158)).alloc (.cells #[.bool nb,.slice A' (limbs y.natAbs).length c'] 158)=W at *;have HB:=oH hb;clear hb;refine (Sub_any _ _ x y W (HX.below HB.out) (HY.below HB.out) hlx hly).mono ?_;rintro e w2 ⟨v2,rfl,hv2,hb2⟩;have HV2:=oH hv2;have HB2:=oH hb2;clear hv2 hb2;go_wp2_with fail;refine (Sign_any v2 (x-y) w2 HV2.out (by have:=zPe hlx hly;omega)).mono ?_;rintro e w3 ⟨rfl,hb3⟩;have HB3:=oH hb3;clear hb3;go_wp2_with fail;go_ret
 exact ⟨rfl,(HB.trans (HB2.mono HB.size)).trans (HB3.mono (Nat.le_trans HB.size HB2.size))⟩
def RetNum2 (w:World) (q r:Int) (e:Ending) (w':World):Prop:=∃ v u,e = .returned (.tuple #[v,u])/\zBw w' v q/\zBw w' u r/\Below w.heap.size w w'
structure BoxesD (w W:World) (n0 n1:Bool) (s0 s1:Value):Prop where
 a0:W.cell? ⟨w.heap.size,0,none⟩=some (.bool n0)
 a1:W.cell? ⟨w.heap.size,1,none⟩=some s0
 b0:W.cell? ⟨w.heap.size+1,0,none⟩=some (.bool n1)
 b1:W.cell? ⟨w.heap.size+1,1,none⟩=some s1
 r0:Res W (w.heap.size+1+1)
 r1:Res W (w.heap.size+1+1+1)
 bel:Below w.heap.size w W
 size:w.heap.size+4<=W.heap.size
end Go.Proofs.YtafflnognagadaaGreatDoor
