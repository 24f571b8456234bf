import Derived.Test.YtbjaplppalcmgaaGreatDoorShelfB
import Derived.Test.YtbjaplppalcmgaaGreatDoorZMH
set_option maxHeartbeats 16000000
set_option maxRecDepth 100000
set_option linter.unusedVariables false
set_option linter.unusedSimpArgs false
set_option linter.unusedSectionVars false
namespace Go.Proofs.YtbjaplppalcmgaaGreatDoor
open Go.RowKit
section
variable {P:Program}
theorem zYi (w:World) (dT sT ty elem:TypeId) (g o dLen dCap:Nat) (a:Addr) (sLen sCap:Nat) (cur:Array Value) (t:TypeId) (cs:List Value) (s:Nat)
  (hu:P.underlying dT=some (.slice elem)) (hs:(P.info? elem).map (·.size)=some s)
  (hg:w.heap[g]? = some (.cells cur t (0,0))) (hn:cs.length=Nat.min sLen dLen*s)
  (hsrc:∀ j v,cs[j]? = some v->w.cell? (a.add j)=some v) (hfit:o+cs.length<=cur.size) (h1:∀ v∈cs,v.oneCell'=true) :
  (Builtin.copy_ #[dT,sT] ty #[.slice (some ⟨g,o,none⟩) dLen dCap,.slice (some a) sLen sCap]).run P w =
   .ok (goInt (Nat.min sLen dLen)) (w.setRow g (cur.toList.take o++cs++cur.toList.drop (o+cs.length)).toArray):=by
 have hl:=run_loadCells_list (P:=P) w a cs hsrc;have hst:=run_storeCells_at P g o t cs 0 cur w hg (by simpa using hfit) h1
 cases hq:P.info? elem with
 | none=>simp [hq] at hs
 | some i =>
  have hi:i.size=s:=by simpa [hq] using hs
  simp [Builtin.copy_,run_underlying hu,Builtin.lenOf,Builtin.firstCells,sizeOf,typeInfo,hq,hi,<-hn,hl,hst]
theorem xFz {w:World} {ops:Array Oper} {rest:List Oper} {o:Oper} {a:Act} {Q:Exit->Act->World->Prop} (hgd:o.guard=none) (d s:Operand) (dT sT:TypeId)
  (ho:o.op = .call { callee := .builtin .copy,args:=#[d,s],argTypes:=#[dT,sT] }) (elem:TypeId) (sz:Nat) (hu:P.underlying dT=some (.slice elem)) (hsz:(P.info? elem).map (·.size)=some sz)
  (g off dLen dCap:Nat) (ad:Addr) (sLen sCap:Nat) (hd:a.eval d = .slice (some ⟨g,off,none⟩) dLen dCap) (hs:a.eval s = .slice (some ad) sLen sCap)
  (cur:List Value) (t:TypeId) (hg:w.heap[g]? = some (.cells cur.toArray t (0,0))) (cs:List Value) (m:Nat) (hm:Nat.min sLen dLen=m) (hn:cs.length=m*sz)
  (hsrc:∀ j v,cs[j]? = some v->w.cell? (ad.add j)=some v) (hfit:off+cs.length<=cur.length) (h1:∀ v∈cs,v.oneCell'=true) (B:Nat) (w0:World) (hb:Below B w0 w) (hBg:B<=g)
  (h:∀ w',Hid (w'.heap[g]? = some (.cells (splice cur off cs).toArray t (0,0)))->Below B w0 w'->wpList P ops Q rest (a.put o.dst (goInt m)) w'):wpList P ops Q (o::rest) a w:=by
 refine wpList_plain hgd fun K hK=>?_
 subst hm;have hrun:=zYi (P:=P) w dT sT o.type elem g off dLen dCap ad sLen sCap cur.toArray t cs sz hu hsz hg hn hsrc (by simpa using hfit) h1;unfold Oper.wp
 simp [execOp,ho,resolve,invoke,builtin,hd,hs,hrun,Result.andThen]
 exact hK _ _ (h _ (show _=_ by simpa [splice] using setRow_heap w g _ _ t _ hg) (below_setRow hb hBg _))
theorem xBb {w:World} {ops:Array Oper} {o:Oper} {a:Act} {K:Act->World->Prop} {Q:Exit->Act->World->Prop} {E:Prop} (hgd:o.guard=none) (d s:Operand) (dT sT:TypeId)
  (ho:o.op = .call { callee := .builtin .copy,args:=#[d,s],argTypes:=#[dT,sT] }) (elem:TypeId) (sz:Nat) (hu:P.underlying dT=some (.slice elem)) (hsz:(P.info? elem).map (·.size)=some sz)
  (g off dLen dCap:Nat) (ad:Addr) (sLen sCap:Nat) (hd:a.eval d = .slice (some ⟨g,off,none⟩) dLen dCap) (hs:a.eval s = .slice (some ad) sLen sCap)
  (cur:List Value) (t:TypeId) (hg:w.heap[g]? = some (.cells cur.toArray t (0,0))) (cs:List Value) (m:Nat) (hm:Nat.min sLen dLen=m) (hn:cs.length=m*sz)
  (hsrc:∀ j v,cs[j]? = some v->w.cell? (ad.add j)=some v) (hfit:off+cs.length<=cur.length) (h1:∀ v∈cs,v.oneCell'=true) (B:Nat) (w0:World) (hb:Below B w0 w) (hBg:B<=g)
  (h:∀ w',Hid (w'.heap[g]? = some (.cells (splice cur off cs).toArray t (0,0)))->Below B w0 w'->K (a.put o.dst (goInt m)) w') :
  if Region.wanted o (yielded ops a.tmps)=true then Oper.wp P o a w K Q else E:=by
 have hw:Region.wanted o (yielded ops a.tmps)=true:=by simp [Region.wanted,hgd]
 rw [if_pos hw];subst hm;have hrun:=zYi (P:=P) w dT sT o.type elem g off dLen dCap ad sLen sCap cur.toArray t cs sz hu hsz hg hn hsrc (by simpa using hfit) h1;unfold Oper.wp
 simp [execOp,ho,resolve,invoke,builtin,hd,hs,hrun,Result.andThen]
 exact h _ (show _=_ by simpa [splice] using setRow_heap w g _ _ t _ hg) (below_setRow hb hBg _)
end
def xGh:FrV:=⟨false,none,0,0,false,none,0,0⟩
def zWc (u:FrV) (k n:Nat):List Value:=frc (List.replicate k u++List.replicate (n-k) xGh)
theorem zNn (a b:List FrV):frc (a++b)=frc a++frc b:=by simp [frc]
theorem zWe {u:FrV} {k n:Nat} (h:k<=n):(zWc u k n).length=n*4:=by unfold zWc;rw [zNp];simp;omega
theorem xAf {α:Type} (A B C:List α):splice (A++B) A.length C=A++(C++B.drop C.length):=by
 unfold splice;rw [List.take_left',List.drop_append,List.drop_eq_nil_of_le oMx,List.nil_append,Nat.add_sub_cancel_left]
 rfl
theorem zWf {u:FrV} {k m n:Nat} (h:k+m<=n):splice (zWc u k n) (k*4) (frc (List.replicate m u))=zWc u (k+m) n:=by
 unfold zWc;rw [zNn]
 have e:k*4=(frc (List.replicate k u)).length:=by rw [zNp];simp
 rw [e,xAf,show n-k=m+(n-(k+m)) by omega,<-List.replicate_append_replicate,zNn];rw [List.drop_left' (by rw [zNp,zNp];simp),<-zNn,<-zNn,<-List.append_assoc,List.replicate_append_replicate]
theorem zNr {us:List FrV}:∀ x∈frc us,x.oneCell'=true:=fun x hx=>by
 unfold frc at hx;rw [List.mem_flatMap] at hx;obtain ⟨a, -,h⟩:=hx;exact zNk x h
theorem frc_no {us:List FrV}:∀ x∈frc us,∀ z,x ≠ .int .u64 z:=fun x hx=>by
 unfold frc at hx;rw [List.mem_flatMap] at hx;obtain ⟨a, -,h⟩:=hx;exact zNi x h
theorem zNs (n:Nat):frc (List.replicate n xGh)=(madeCells #[.bool false,.slice none 0 0,.bool false,.slice none 0 0] (n*4)).toList:=by
 apply List.ext_getElem?
 intro j
 by_cases hj:j<n*4
 ·have h1:j/4<(List.replicate n xGh).length:=by simp;omega
  obtain ⟨a0,a1,a2,a3⟩:=zNo h1;rw [List.getElem_replicate] at a0 a1 a2 a3
  have h3:(madeCells #[.bool false,.slice none 0 0,.bool false,.slice none 0 0] (n*4)).toList[j]? = some ((#[Value.bool false,.slice none 0 0,.bool false,.slice none 0 0])[j%4]!):=by
   simp [madeCells,hj]
  rw [h3]
  have h4:j%4=0\/j%4=1\/j%4=2\/j%4=3:=by omega
  rcases h4 with h|h|h|h
  ·rw [h,show j=j/4*4 by omega,a0];rfl
  ·rw [h,show j=j/4*4+1 by omega,a1];rfl
  ·rw [h,show j=j/4*4+2 by omega,a2];rfl
  rw [h,show j=j/4*4+3 by omega,a3];rfl
 rw [List.getElem?_eq_none (by rw [zNp];simp;omega),List.getElem?_eq_none (by simp [madeCells];omega)]
theorem Tryz.sizeFrac:(Tryz.prog.info? 73).map (·.size)=some 4:=by kernel_rfl
theorem zYj (n:Nat) (hn:n<=1000000) (w:World):(Instr.makeSlice 71 (.int .i64 (n:Int)) (.int .i64 (n:Int))).run Tryz.prog w = .ok (.slice (some ⟨w.heap.size,0,none⟩) n n) (w.alloc (.cells (frc (List.replicate n xGh)).toArray 73)):=by
 obtain ⟨i0,hi,hz0,hz1,hz2⟩:=info_parts Tryz.infoFrac;have hr:=run_make (P:=Tryz.prog) w 71 73 i0 (.agg #[.bool false,.slice none 0 0,.bool false,.slice none 0 0]) Tryz.underlying71 hi hz0 .i64 .i64 n n oMx (Int.le_refl _) (by rw [hz2];omega) oMx
 have hm:madeCells (Value.agg #[.bool false,.slice none 0 0,.bool false,.slice none 0 0]).cells (n*4)=(frc (List.replicate n xGh)).toArray:=by
  rw [zNs];rfl
 simp only [Int.toNat_natCast,hz1,hm] at hr;exact hr
theorem zSh {w:World} {g:Nat} {t:TypeId} {cs ds:List Value} (h:Blk w g t cs) (he:∀ (j:Nat) (v:Value),ds[j]? = some v->cs[j]? = some v):∀ (j:Nat) (v:Value),ds[j]? = some v->w.cell? ((⟨g,0,none⟩:Addr).add j)=some v:=fun j v hj=>by
 have hadd:(⟨g,0,none⟩:Addr).add j=⟨g,j,none⟩:=by unfold Addr.add;split<;>simp_all
 rw [hadd];exact h.at_ (he j v hj)
theorem zWd {u:FrV} {k m n:Nat} (hm:m<=k):∀ (j:Nat) (v:Value),(frc (List.replicate m u))[j]? = some v->(zWc u k n)[j]? = some v:=fun j v hj=>by
 have hj':j<(frc (List.replicate m u)).length:=(List.getElem?_eq_some_iff.1 hj).1;unfold zWc;rw [show k=m+(k-m) by omega,<-List.replicate_append_replicate,List.append_assoc,zNn,List.getElem?_append_left hj'];exact hj
theorem zFj (gx n:Nat) (u:FrV) (w:World) (hx:Blk w gx 73 u.four) (hn1:1<=n) (hn:n<=1000) :
  Calls Tryz.prog 57 #[.slice (some ⟨gx,0,none⟩) 1 1,.int .i64 (n:Int)] w fun e w'=>∃ g,e = .returned (.slice (some ⟨g,0,none⟩) n n)/\w.heap.size<=g/\Blk w' g 73 (frc (List.replicate n u))/\Below w.heap.size w w':=by
 have HM:=oH (fun W=>Tryz.bits_Mul 1 n dCx oMx W);rw [show 1*n/18446744073709551616=0 by omega,show 1*n%18446744073709551616=n by omega] at HM;have hmk:=zYj n oMx;have hd:decide ((n:Int)<0)=false:=decide_eq_false oMx;have HX:=oH hx;clear hx
 go_enter Tryz.func57,Tryz.ntmps57
 go_wp2_with fail;refine (HM.out w).mono ?_;rintro e w' ⟨rfl,rfl⟩;clear HM hd;go_upto_region 7 with (fail);clear hmk
 have hk:Blk (w'.alloc (.cells (frc (List.replicate n xGh)).toArray 73)) w'.heap.size 73 (zWc u 0 n):=by
  have:=Blk.new w' 73 (zWc u 0 n)
  simpa [zWc] using this
 have hb0:Below w'.heap.size w' (w'.alloc (.cells (frc (List.replicate n xGh)).toArray 73)):=bA;have hx1:=HX.below hb0;generalize w'.alloc (.cells (frc (List.replicate n xGh)).toArray 73)=W at *;have HK:=oH hk;have HB:=oH hb0;have HX1:=oH hx1;clear hk hb0 hx1;obtain ⟨g,hg⟩:=eXx (w'.heap.size);have HG:Hid (w'.heap.size<=g):=oH oMx;rw [hg] at HK ⊢;have HG2:=oH hg;clear hg
 have F1:Nat.min 1 n=1:=by show min 1 n=1;omega
 have F2:(frc (List.replicate 1 u)).length=1*4:=by simp [zNp]
 have F3:=zSh (ds:=frc (List.replicate 1 u)) HX1.out (fun j v hj=>by simpa [frc] using hj)
 have F4:0+(frc (List.replicate 1 u)).length<=(zWc u 0 n).length:=by rw [zWe oLx,F2];omega
 replace F1:=oH F1;replace F2:=oH F2;replace F3:=oH F3;replace F4:=oH F4
 go_wp2_with (refine xFz (o:=⟨some 33,_,_,_,_,_⟩) rfl (.tmp 31) (.tmp 32) 71 71 rfl 73 4 Tryz.underlying71 Tryz.sizeFrac g 0 n n ⟨gx,0,none⟩ 1 1 rfl rfl (zWc u 0 n) 73 HK.out (frc (List.replicate 1 u)) 1 F1.out F2.out F3.out F4.out zNr w'.heap.size w' HB.out HG.out ?_)
 intro w2 hk2 hb2
 have hk3:Blk w2 g 73 (zWc u 1 n):=by
  have e:splice (zWc u 0 n) 0 (frc [u])=zWc u (0+1) n:=by
   have:=zWf (u:=u) (k:=0) (m:=1) (n:=n) oMx
   simpa using this
  have h2:=hk2.out;rw [e] at h2;exact h2
 have HK2:=oH hk3;have HB2:=oH hb2;clear hk2 hb2 hk3 HK HB HX1 F1 F2 F3 F4;go_wp2_with fail
 go_loopw [8] (fun kv wr=>∃ k:Nat,kv = .int .i64 (k:Int)/\1<=k/\k<=n/\Blk wr g 73 (zWc u k n)/\Below w'.heap.size w' wr) (fun kv _=>n-(intOf kv).toNat)
 ·exact ⟨1,rfl,oMx,oMx,HK2.out,HB2.out⟩
 clear HK2 HB2;obtain ⟨k,rfl,hk1,hkn,hkb,hb⟩:=hrel;have HK:=oH hkb;have HB:=oH hb;clear hkb hb
 by_cases hlt:k<n
 ·have i1:(0:Int)<=(k:Int):=by omega
  have i2:(k:Int)<=(n:Int):=by omega
  obtain ⟨m,hm⟩:=eXx (min k (n-k))
  have hm1:1<=m:=by omega
  have hm2:k+m<=n:=by omega
  have hnk:¬n=k:=by omega
  have hwm:IntKind.i64.wrap ((k:Int)+(m:Int))=(k:Int)+(m:Int):=IntWalk.i64_in _ oMx
  have hmk':m<=k:=by omega
  have HMM:=oH (show Nat.min k (n-k)=m from hm);have HKD:=oH (show wr.drew.heap[g]? = some (.cells (zWc u k n).toArray 73 (0,0)) from HK.out);have HBD:=oH HB.drew;have HKB:=oH HK.drew;have HFIT:Hid (k*4+(frc (List.replicate m u)).length<=(zWc u k n).length):=oH (by rw [zWe oMx,zNp];simp;omega);have HL4:Hid ((frc (List.replicate m u)).length=m*4):=oH (by rw [zNp];simp);clear hm;go_wp2_with fail
  go_region_law (refine xBb rfl (.tmp 41) (.tmp 44) 71 71 rfl 73 4 Tryz.underlying71 Tryz.sizeFrac g (k*4) (n-k) (n-k) ⟨g,0,none⟩ k n (by go_simp) (by go_simp) (zWc u k n) 73 HKD.out (frc (List.replicate m u)) m HMM.out HL4.out (zSh HKB.out (zWd hmk')) HFIT.out zNr w'.heap.size w' HBD.out HG.out ?_;intro w3 hk3 hb3;have HK3:=oH hk3;have HB3:=oH hb3;clear hk3 hb3)
  have HK4:Hid (Blk w3 g 73 (zWc u (k+m) n)):=oH (by
   have h2:=HK3.out;rw [zWf hm2] at h2
   exact h2)
  go_frame
  go_roundw
  ·(repeat apply Exists.intro);exact ⟨⟨k+m,by go_num,oMx,hm2,HK4.out,HB3.out⟩,rfl⟩
  simp [intOf];omega
 obtain rfl:n=k:=by omega
 have HS:Hid (Blk wr g 73 (frc (List.replicate n u))):=oH (by have:=HK.out;simpa [zWc] using this);go_wp2_with fail;go_ret
 exact ⟨g,rfl,HG.out,HS.out,HB.out⟩
theorem field_T (w:World) (v0:Bool) (A B:oAx) (l c m d:Nat):(Instr.field 65 (.agg #[.bool v0,.slice A l c,.slice B m d]) 1).run Tryz.prog w = .ok (.slice B m d) w:=by kernel_rfl
attribute [go_sem] field_T
structure RowQ (w:World) (g:Nat) (vs:List FrV) (n:Nat) (q:Nat->Rat):Prop where
 blk:Blk w g 73 (frc vs)
 len:vs.length=n
 num:∀ j,(h:j<vs.length)->zBo w vs[j].val (q j)
theorem zNu:∀ {us:List FrV} {i:Nat} (_:i<us.length) (u:FrV),((((frc us).set (i*4) (.bool u.na)).set (i*4+1) (.slice u.A u.l u.c)).set (i*4+2) (.bool u.nb)).set (i*4+3) (.slice u.A' u.l' u.c')=frc (us.set i u)
 | a::r,0,_,u=>by simp [frc,FrV.four]
 | a::r,i+1,h,u=>by
  have:=zNu (us:=r) (i:=i) (by simpa using h) u;rw [show (i+1)*4=i*4+1+1+1+1 by omega,show i*4+1+1+1+1+1=(i*4+1)+1+1+1+1 by omega,show i*4+1+1+1+1+2=(i*4+2)+1+1+1+1 by omega,show i*4+1+1+1+1+3=(i*4+3)+1+1+1+1 by omega];simp only [frc,FrV.four,List.flatMap_cons,List.cons_append,List.nil_append,List.set_cons_succ] at this ⊢;rw [this]
section
variable {w w':World} {g n:Nat} {vs:List FrV} {q:Nat->Rat}
theorem RowQ.below (h:RowQ w g vs n q) (hb:Below w.heap.size w w'):RowQ w' g vs n q:=⟨h.blk.below hb,h.len,fun j hj=>(h.num j hj).below hb⟩
theorem RowQ.put (h:RowQ w g vs n q) {k:Nat} (hk:k<n) {u:FrV} {x:Rat} (hu:zBo w u.val x) :
  RowQ ((((w.setCell ⟨g,k*4,none⟩ (.bool u.na)).setCell ⟨g,k*4+1,none⟩ (.slice u.A u.l u.c)).setCell ⟨g,k*4+2,none⟩ (.bool u.nb)).setCell ⟨g,k*4+3,none⟩ (.slice u.A' u.l' u.c')) g (vs.set k u) n (fun j=>if j=k then x else q j):=by
 have b1:=h.blk.set (k*4) (.bool u.na);have b2:=b1.set (k*4+1) (.slice u.A u.l u.c);have b3:=b2.set (k*4+2) (.bool u.nb);have b4:=b3.set (k*4+3) (.slice u.A' u.l' u.c');have n1:∀ a∈(frc vs).set (k*4) (.bool u.na),∀ z,a ≠ .int .u64 z:=zSl frc_no (fun z e=>by cases e);have n2:∀ a∈((frc vs).set (k*4) (.bool u.na)).set (k*4+1) (.slice u.A u.l u.c),∀ z,a ≠ .int .u64 z:=zSl n1 (fun z e=>by cases e);have n3:∀ a∈(((frc vs).set (k*4) (.bool u.na)).set (k*4+1) (.slice u.A u.l u.c)).set (k*4+2) (.bool u.nb),∀ z,a ≠ .int .u64 z:=zSl n2 (fun z e=>by cases e)
 have hkeep:∀ v y,zBo w v y->zBo ((((w.setCell ⟨g,k*4,none⟩ (.bool u.na)).setCell ⟨g,k*4+1,none⟩ (.slice u.A u.l u.c)).setCell ⟨g,k*4+2,none⟩ (.bool u.nb)).setCell ⟨g,k*4+3,none⟩ (.slice u.A' u.l' u.c')) v y:=fun v y hv =>
  (((hv.box h.blk frc_no (zOc g _ _)).box b1 n1 (zOc g _ _)).box b2 n2 (zOc g _ _)).box b3 n3 (zOc g _ _)
 rw [zNu (by have:=h.len;omega) u] at b4;refine ⟨b4,by rw [List.length_set];exact h.len,fun j hj=>?_⟩
 by_cases e:j=k
 ·subst e;rw [List.getElem_set_self,if_pos rfl];exact hkeep _ _ hu
 rw [List.getElem_set_ne (Ne.symm e),if_neg e];exact hkeep _ _ (h.num j (by simpa using hj))
end
theorem Sz.of1:Sz 5000000 1:=⟨Nat.le_trans zBz dCx,Nat.le_trans zBz dCx⟩
def zPf (s:zAr) (a j:Nat):Rat:=if j=a then 1 else if j<a then Rat.divInt (-(s.P j a)) s.v else 0
def zBc (ps:List Nat) (a:Nat):Prop:=a<=ps.length/\(∀ i,i<a->pn ps i=i)/\¬(a<ps.length/\pn ps a=a)
def zBv (heavy:Bool) (s:zAr) (n:Nat) (w:World) (e:Ending) (w':World):Prop :=
 match heavy with
 | true=>e = .returned (.tuple #[.slice none 0 0,.int .i64 3])/\Below w.heap.size w w'
 | false=>(s.ps.length=n/\e = .returned (.tuple #[.slice none 0 0,.int .i64 12])/\Below w.heap.size w w')\/(s.ps.length<n/\∃ a,zBc s.ps a/\zGc w ((List.range n).map (zPf s a)) e w')
theorem zBw (A:oAx) (c n:Nat) (rs:List zGh) (w:World) (h:zCj w A rs) (hf:zBb rs n) (hm1:1<=rs.length) (hn1:1<=n) (henv:Env w) :
  Calls Tryz.prog 22 #[.slice A rs.length c] w (zBv (decide (600<zOh rs n)) (eli rs.length (zRg rs) n) n w):=by
 generalize hQ:zBv (decide (600<zOh rs n)) (eli rs.length (zRg rs) n) n w=Q;replace hQ:=oH hQ;have HM:=oH h;have HF:=oH hf;have HE:=oH henv;have hm12:=hf.m;have hn12:=hf.n12;have HB0:=oH ((Below.refl w.heap.size w).alloc lRx (.cells #[.slice A rs.length c] 24));have HBG:=oH (zIk A rs c n w.heap.size (w.alloc (.cells #[.slice A rs.length c] 24)) (h.below HB0.out) hf ((Blk.new w 24 [.slice A rs.length c]).at_ (i:=0) rfl) (henv.below HB0.out));clear h hf henv
 go_enter Tryz.func22,Tryz.ntmps22
 go_wp2_with fail;refine HBG.mono ?_;rintro e w1 ⟨rfl,hb1⟩;have HB1:=bTx2 HB0 hb1;have HHV:=zBh A c n rs w1 (HM.below HB1.out) HF.out hm1 hn1 (HE.below HB1.out);clear hb1
 by_cases hh:600<zOh rs n
 ·rw [show decide (600<zOh rs n)=true from by simpa using hh] at HHV hQ;replace HHV:=oH HHV;clear hh;go_wp2_with fail;refine HHV.mono ?_;rintro e w2 ⟨rfl,hb2⟩;have HB2:=bTx2 HB1 hb2;clear hb2;go_wp2_with fail;rw [<-hQ.out];exact ⟨rfl,HB2.out⟩
 rw [show decide (600<zOh rs n)=false from by simpa using hh] at HHV hQ;replace HHV:=oH HHV;have HH:=oH hh;clear hh;go_wp2_with fail;refine HHV.mono ?_;rintro e w2 ⟨rfl,hb2⟩;have HB2:=bTx2 HB1 hb2;have HWD:=oH (xFt A rs c n w2 (HM.below HB2.out) HF.out (HE.below HB2.out));clear hb2;go_wp2_with fail;refine HWD.mono ?_;rintro e w2' ⟨rfl,hb2⟩;have HB2':=bTx2 HB2 hb2;have HOF:=oH (zCs A c n rs w2' (HM.below HB2'.out) HF.out hm1 hn1 (HE.below HB2'.out));clear hb2;go_wp2_with fail;refine HOF.mono ?_;rintro e w3 ⟨R,cR,rows,dv,rfl,hl,ht, -, -,hd3,hb3⟩;have HB3:=oH (HB2'.trans (hb3.mono HB2'.size))
 replace ht:zHa w2'.heap.size w3 (.slice (some ⟨R,0,none⟩) rows.length cR) rows n (zRg rs):=by rw [hl];exact ht
 have HRD:=zFi _ cR n n rows (zRg rs) w3 ht.read oMx oMx hn1 oMx lRx (fun i k hi=>zPo HF.out hm1 (Nat.le_of_not_lt HH.out) i k oMx);rw [hl] at HRD;replace HRD:=oH HRD;clear ht hd3 hb3 hl;go_wp2_with fail;refine HRD.mono ?_;rintro e w4 ⟨R4,cR4,rows4,pv,v,rfl,hl4,hrr,hb4⟩;have HB4:=bTx2 HB3 hb4;obtain ⟨Ap,cp,rfl, -⟩:=zUj hrr.pvt;have HEL:=oH (zMu (m:=rs.length) (fun i k hi=>zPo HF.out hm1 (Nat.le_of_not_lt HH.out) i k hi) zBz n)
 have hrc:(eli rs.length (zRg rs) n).ps.length<=n:=by
  obtain ⟨F,hg, -⟩:=zMt rs.length (zRg rs) n;exact hg.rc
 have hv0:(eli rs.length (zRg rs) n).v≠0:=by
  obtain ⟨F,hg, -⟩:=zMt rs.length (zRg rs) n
  intro e
  exact hg.v0 (by rw [e];rfl)
 generalize eli rs.length (zRg rs) n=s at *;obtain ⟨pl,hpl⟩:=eXx (s.ps.length);have HPL:=oH hpl;rw [hpl] at hrc HEL;rw [hpl];have HB6:=oH (HB4.alloc HB4.size (.cells #[.slice (some ⟨R4,0,none⟩) rs.length cR4,.slice Ap pl cp,.bool v.nb,.slice v.ad v.l v.c,.bool s.odd] 69));have hT6:=Blk.new w4 69 [.slice (some ⟨R4,0,none⟩) rs.length cR4,.slice Ap pl cp,.bool v.nb,.slice v.ad v.l v.c,.bool s.odd];have HR6:=oH (hrr.below (bRx.alloc lRx (.cells #[.slice (some ⟨R4,0,none⟩) rs.length cR4,.slice Ap pl cp,.bool v.nb,.slice v.ad v.l v.c,.bool s.odd] 69)));rw [hpl] at HR6;have HL4:=oH hl4;clear hb4 hrr hl4 hpl HRD HOF
 by_cases hfull:pl=n
 ·have hd:((pl:Int)==(n:Int))=true:=by simp;omega
  have HFU:=oH hfull;clear hfull;go_wp2_with fail;rw [<-hQ.out];exact .inl ⟨by rw [HPL.out,HFU.out],rfl,HB6.out⟩
 have hd:((pl:Int)==(n:Int))=false:=by simp;omega
 have HFU:=oH hfull
 have hlt0:pl<n:=by omega
 clear hfull;go_wp2_with fail;generalize (w4.alloc (.cells #[.slice (some ⟨R4,0,none⟩) rs.length cR4,.slice Ap pl cp,.bool v.nb,.slice v.ad v.l v.c,.bool s.odd] 69))=W at *;generalize w4.heap.size=y at *;have k1:=hT6.at_ (i:=1) rfl;have HT6:=oH hT6;clear hT6;have hlies:=zUk (show W.ownsRow w3.heap.size 3 1 (.slice Ap pl cp) pl (vn s.ps) from by have h9:=HR6.pvt;rw [HPL.out] at h9;exact h9)
 go_loopw [7] (fun kv wr=>∃ a:Nat,kv = .int .i64 (a:Int)/\a<=pl/\(∀ i,i<a->pn s.ps i=i)/\wr=W) (fun kv _=>n-(intOf kv).toNat)
 ·exact ⟨0,rfl,oLx,fun i h=>by omega,rfl⟩
 obtain ⟨a,rfl,ha,hpa,rfl⟩:=hrel;obtain ⟨W,rfl⟩:=nWx wr;have HPA:=oH hpa;clear hpa
 by_cases hgo:a<pl/\pn s.ps a=a
 ·obtain ⟨hap,hpe⟩:=hgo;obtain ⟨bp,op,rfl, -, -⟩:=hlies (by intro e;have h9:=xFm s.ps;rw [e] at h9;have h8:=HPL.out;simp at h9;omega);have kp:=hlies.at_ (xFl (xs:=s.ps) (i:=a) (by have:=HPL.out;omega));rw [show nth s.ps a=a from hpe] at kp
  have hx1:(0:Int)<=(a:Int):=by omega
  have hx2:(a:Int)<(pl:Int):=by omega
  have HPE:=oH hpe;clear hpe;go_wp2_with fail;go_roundw
  ·exact ⟨a+1,by go_num,oMx,fun i hi=>(by
   rcases Nat.lt_or_ge i a with h1|h1
   ·exact HPA.out i h1
   obtain rfl:i=a:=by omega
   exact HPE.out),(by first|trivial|rfl)⟩
  simp [intOf];omega
 have HFF:=oH (show zBc s.ps a from ⟨by rw [HPL.out];exact ha,HPA.out,by rw [HPL.out];exact hgo⟩)
 have han:a<n:=by omega
 rcases Nat.lt_or_ge a pl with hap|hap
 ·obtain ⟨bp,op,rfl, -, -⟩:=hlies (by intro e;have h9:=xFm s.ps;rw [e] at h9;have h8:=HPL.out;simp at h9;omega);have kp:=hlies.at_ (xFl (xs:=s.ps) (i:=a) (by have:=HPL.out;omega));obtain ⟨pa,hpa⟩:=eXx (nth s.ps a);rw [hpa] at kp
  have hne:((pa:Int)==(a:Int))=false:=by
   rw [beq_eq_false_iff_ne]
   intro e
   exact hgo ⟨hap,by show nth s.ps a=a;omega⟩
  have hx1:(0:Int)<=(a:Int):=by omega
  have hx2:(a:Int)<(pl:Int):=by omega
  clear hpa hgo;go_wp2_with fail;clear kp hne k1;refine (zAy 0 _ dCx).mono ?_;rintro e w8 ⟨v8,rfl,hv8,hb8⟩;have HB8:=oH hb8;have HV8:=oH hv8;obtain ⟨na8,nb8,A8,B8,l8,c8,m8,d8,rfl⟩:=hv8.slice;have HRP:=oH (zFj w8.heap.size n ⟨na8,A8,l8,c8,nb8,B8,m8,d8⟩ (w8.alloc (.cells #[.bool na8,.slice A8 l8 c8,.bool nb8,.slice B8 m8 d8] 73)) (Blk.new _ _ _) hn1 oMx);have HB8a:=oH (HB8.alloc HB8.size (.cells #[.bool na8,.slice A8 l8 c8,.bool nb8,.slice B8 m8 d8] 73));have HV8a:=oH (HV8.below (bRx.alloc lRx (.cells #[.bool na8,.slice A8 l8 c8,.bool nb8,.slice B8 m8 d8] 73)));clear hv8 hb8;go_wp2_with fail;refine HRP.mono ?_;rintro e w9 ⟨g,rfl,hg,hbk,hb9⟩;have HB9:=bTx2 HB8a hb9
  have hgW:W.heap.size<=g:=by have:=HB8a.size;omega
  have HQ9:=oH (show RowQ w9 g (List.replicate n ⟨na8,A8,l8,c8,nb8,B8,m8,d8⟩) n (fun _=>0) from ⟨hbk,by simp,fun j hj=>by rw [List.getElem_replicate];exact HV8a.below hb9⟩);clear hbk hb9 hg;go_wp2_with fail;refine (zAy 1 _ dCx).mono ?_;rintro e w10 ⟨v10,rfl,hv10,hb10⟩;have HB10:=bTx2 HB9 hb10;have hq10:=HQ9.below hb10;have HV10:=oH hv10;have HQ10:=oH hq10;obtain ⟨nax,nbx,Ax,Bx,lx,cx,mx,dx,rfl⟩:=hv10.slice
  have har:a<(List.replicate n (FrV.mk na8 A8 l8 c8 nb8 B8 m8 d8)).length:=by simp;omega
  have e0:=hq10.blk.at_ (zNo har).1;have e1:=hq10.blk.at_ (zNo har).2.1;have e2:=hq10.blk.at_ (zNo har).2.2.1;have e3:=hq10.blk.at_ (zNo har).2.2.2;have f0:=hq10.blk.fr (a*4);have f1:=hq10.blk.fr (a*4+1);have f2:=hq10.blk.fr (a*4+2);have f3:=hq10.blk.fr (a*4+3)
  have hx1:(0:Int)<=(a:Int):=by omega
  have hx2:(a:Int)<(n:Int):=by omega
  clear hv10 hb10 hq10;go_wp2_with fail;clear e0 e1 e2 e3 f0 f1 f2 f3
  go_loopw [55] (fun iv wr=>∃ (i:Nat) (vs:List FrV) (q:Nat->Rat),iv = .int .i64 (i:Int)/\i<=a/\Below W.heap.size W wr/\RowQ wr g vs n q/\∀ j,q j=if j=a then 1 else if j<i then zPf s a j else 0) (fun iv _=>a-(intOf iv).toNat)
  ·exact ⟨0,_,_,rfl,oLx,((((HB10.setCell (p:=⟨g,a*4,none⟩) hgW _).setCell (p:=⟨g,a*4+1,none⟩) hgW _).setCell (p:=⟨g,a*4+2,none⟩) hgW _).setCell (p:=⟨g,a*4+3,none⟩) hgW _),HQ10.put (k:=a) oMx (u:=⟨nax,Ax,lx,cx,nbx,Bx,mx,dx⟩) HV10.out,fun j=>by
   by_cases e:j=a
   ·rw [if_pos e,if_pos e];rfl
   rw [if_neg e,if_neg e,if_neg oMx]⟩
  obtain ⟨i,vs,q,rfl,hi,hbw,hrq,hq⟩:=hrel;have HBW:=oH hbw;have HRQ:=oH hrq;have HQQ:=oH hq;clear hq
  by_cases hlt:i<a
  ·have him:i<rows4.length:=by have h9:=HEL.2.2;have h8:=HL4.out;omega
   have hrr:=HR6.below hbw;have hT:=HT6.below hbw;have p0:=hT.at_ (i:=0) rfl;have p2:=hT.at_ (i:=2) rfl;have p3:=hT.at_ (i:=3) rfl;have p4:=hrr.tab.cell (by rw [HL4.out]) him;obtain ⟨nbz,Sz,lz,cz,p5,p6,hz⟩:=hrr.tab.num_at him (k:=a) oMx;have HVv:=oH (show zBs wr (.agg #[.bool v.nb,.slice v.ad v.l v.c]) s.v from hrr.val);have hzl:=HEL.1 i a (by have:=HL4.out;omega);have hvl:=HEL.2.1;have hg1:grw 70 pl<=300000:=zOf lRx (by have:=HEL.2.2;omega);have HKQ:=oH (show Rat.divInt (-(s.P i a)) s.v=zPf s a i from by unfold zPf;rw [if_neg oMx,if_pos hlt]);have hrgW:rows4[i].g<W.heap.size:=(HR6.tab.blk him).2;have hRW:R4<W.heap.size:=(HR6.tab.o.lt R4 rfl).2;have hyW:=HT6.lt;generalize rows4[i].g=rg at *;generalize rows4[i].cp=rc at *;obtain ⟨z,hzz⟩:=eXx (s.P i a);rw [hzz] at hz hzl HKQ;have HZ:=oH hz
   have hz1:(limbs z.natAbs).length<=300000:=by unfold LL at hzl;omega
   have hz2:(limbs (-z).natAbs).length<=300000:=by rw [Int.natAbs_neg];exact hz1
   have hv1:(limbs s.v.natAbs).length<=300000:=by unfold LL at hvl;omega
   have hiv:i<vs.length:=by have:=HRQ.len;omega
   have KB:=oH (fun W' (hW:Below wr.heap.size wr W')=>(show W'.cell? ⟨y,0,none⟩=some (.slice (some ⟨R4,0,none⟩) rs.length cR4)/\W'.cell? ⟨y,2,none⟩=some (.bool v.nb)/\W'.cell? ⟨y,3,none⟩=some (.slice v.ad v.l v.c)/\W'.cell? ⟨R4,i,none⟩=some (.slice (some ⟨rg,0,none⟩) n rc)/\W'.cell? ⟨rg,a*2,none⟩=some (.bool nbz)/\W'.cell? ⟨rg,a*2+1,none⟩=some (.slice Sz lz cz) from ⟨kP hW p0,kP hW p2,kP hW p3,kP hW p4,kP hW p5,kP hW p6⟩));have KS0:Hid (wr.drew.cell? ⟨y,0,none⟩=some (.slice (some ⟨R4,0,none⟩) rs.length cR4)/\wr.drew.cell? ⟨y,2,none⟩=some (.bool v.nb)/\wr.drew.cell? ⟨y,3,none⟩=some (.slice v.ad v.l v.c)/\wr.drew.cell? ⟨R4,i,none⟩=some (.slice (some ⟨rg,0,none⟩) n rc)/\wr.drew.cell? ⟨rg,a*2,none⟩=some (.bool nbz)/\wr.drew.cell? ⟨rg,a*2+1,none⟩=some (.slice Sz lz cz)):=oH ⟨p0,p2,p3,p4,p5,p6⟩
   have i1:(0:Int)<=(i:Int):=by omega
   have i2:(i:Int)<(rs.length:Int):=by have:=HL4.out;omega
   have i3:(i:Int)<(n:Int):=by omega
   have i4:(0:Int)<=(a:Int):=by omega
   have i5:(a:Int)<(n:Int):=by omega
   have ny1:¬(g=y):=oMx;have ny2:¬(y=g):=oMx;have ny3:¬(g=R4):=oMx;have ny4:¬(R4=g):=oMx;have ny5:¬(g=rg):=oMx;have ny6:¬(rg=g):=oMx;clear hrr hT hz hzz hzl hvl hbw hrq;go_wp2_with fail
   go_region_held3 (fun w'=>w'.cell? ⟨y,0,none⟩=some (.slice (some ⟨R4,0,none⟩) rs.length cR4)/\w'.cell? ⟨y,2,none⟩=some (.bool v.nb)/\w'.cell? ⟨y,3,none⟩=some (.slice v.ad v.l v.c)/\w'.cell? ⟨R4,i,none⟩=some (.slice (some ⟨rg,0,none⟩) n rc)/\w'.cell? ⟨rg,a*2,none⟩=some (.bool nbz)/\w'.cell? ⟨rg,a*2+1,none⟩=some (.slice Sz lz cz)) (first|with_reducible exact KS0.out|with_reducible exact KSa.out|with_reducible exact KSb.out|go_keep) (first|(go_at_call 52;(with_reducible refine (zCo _ z _ (HZ.out.below (by first|with_reducible exact bRx|with_reducible exact bRx.drew)) oMx).mono ?_);rintro e wa ⟨va,rfl,hv,hb⟩;have hw:Below wr.heap.size wr wa:=Below.trans (by first|with_reducible exact bRx|with_reducible exact bRx.drew) hb;have HWa:=oH hw;have HVa:=oH hv;have KSa:=oH (KB.out wa hw);obtain ⟨xa,Xa,ya,za,rfl⟩:=hv.slice;clear hv hb hw)|(go_at_call 36;(with_reducible refine (zCp _ _ (-z) s.v _ HVa.out (HVv.out.below HWa.out) oMx oMx hv0).mono ?_);rintro e wb ⟨vb,rfl,hv,hb⟩;have HWb:=bTx2 HWa hb;have HVb:=oH hv;have KSb:=oH (KB.out wb HWb.out);have hrq:=HRQ.out.below HWb.out;have HRb:=oH hrq;have e0:=hrq.blk.at_ (zNo hiv).1;have e1:=hrq.blk.at_ (zNo hiv).2.1;have e2:=hrq.blk.at_ (zNo hiv).2.2.1;have e3:=hrq.blk.at_ (zNo hiv).2.2.2;have f0:=hrq.blk.fr (i*4);have f1:=hrq.blk.fr (i*4+1);have f2:=hrq.blk.fr (i*4+2);have f3:=hrq.blk.fr (i*4+3);obtain ⟨nb,nb',Ab,Ab',lb,cb,lb',cb',rfl⟩:=hv.slice;clear hv hb hrq))
   all_goals
    go_wp2_with fail;go_roundw
    case rel =>
     refine ⟨i+1,_,_,by go_num,oMx,(((((HBW.trans (HWb.mono HBW.size)).setCell (p:=⟨g,i*4,none⟩) hgW _).setCell (p:=⟨g,i*4+1,none⟩) hgW _).setCell (p:=⟨g,i*4+2,none⟩) hgW _).setCell (p:=⟨g,i*4+3,none⟩) hgW _),HRb.put (k:=i) oMx (u:=⟨nb,Ab,lb,cb,nb',Ab',lb',cb'⟩) HVb.out,fun j=>?_⟩;have h9:=HQQ.out j;have h8:=HKQ.out
     by_cases e:j=i
     ·subst e;rw [if_pos rfl,if_neg oMx,if_pos oMx];exact h8
     rw [if_neg e,h9]
     by_cases e2:j=a
     ·rw [if_pos e2,if_pos e2]
     rw [if_neg e2,if_neg e2]
     by_cases e3:j<i
     ·rw [if_pos e3,if_pos oMx]
     rw [if_neg e3,if_neg oMx]
    simp [intOf];omega
  obtain rfl:i=a:=by omega
  have hqs:∀ j,q j=zPf s i j:=fun j=>by
   rw [HQQ.out j];unfold zPf
   by_cases e:j=i
   ·rw [if_pos e,if_pos e]
   rw [if_neg e,if_neg e]
   by_cases e2:j<i
   ·rw [if_pos e2,if_pos e2]
   rw [if_neg e2,if_neg e2]
  have hlen:=HRQ.len
  have HTX:=zHc (some ⟨g,0,none⟩) vs ((List.range n).map (zPf s i)) n wr (fun j hj=>⟨g,0,rfl,HRQ.blk.lt,by rw [Nat.zero_add];exact HRQ.blk.at_ (zNo hj).1,by rw [Nat.zero_add];exact HRQ.blk.at_ (zNo hj).2.1,by rw [Nat.zero_add];exact HRQ.blk.at_ (zNo hj).2.2.1,by rw [Nat.zero_add];exact HRQ.blk.at_ (zNo hj).2.2.2⟩)
   ⟨by rw [List.length_map,List.length_range];exact hlen,fun j h1 h2=>by rw [List.getElem_map,List.getElem_range,<-hqs j];exact HRQ.num j h1⟩ oMx
   (fun x hx=>by
    obtain ⟨j,hj,rfl⟩:=List.mem_map.1 hx;unfold zPf
    split
    ·exact Sz.of1
    split
    ·rename_i h1 h2
     have h3:=HEL.1 j i (by have:=HEL.2.2;omega);have h4:=HEL.2.1;have hg1:grw 70 pl<=300000:=zOf lRx (by have:=HEL.2.2;omega);unfold LL at h3 h4;exact Sz.divInt hv0 (by rw [Int.natAbs_neg];omega) oMx
    exact Sz.zero.mono dCx) (HE.below (HB6.trans (hbw.mono HB6.size)))
  rw [hlen] at HTX;replace HTX:=oH HTX;have HBF:=bTx2 HB6 hbw;clear hbw hrq hqs hlen;go_wp2_with fail;refine HTX.mono ?_;have HKF:=oH (fun e w' (h:zGc w ((List.range n).map (zPf s i)) e w')=>(show zBv false s n w e w' from .inr ⟨by rw [HPL.out];exact hlt0,i,HFF.out,h⟩));have HLQ:=oH (show ((List.range n).map (zPf s i)).length=n by simp);generalize (List.range n).map (zPf s i)=ql at *;rintro e w11 (⟨At,ct,hfit,rfl,hst,hb11⟩|⟨hno,rfl,hb11⟩)
  ·have HB11:=bTx2 HBF hb11;have HST:=oH hst;have HFIT:=oH hfit;clear hb11 hst hfit;go_wp2_with fail;rw [<-hQ.out];exact HKF.out _ _ (.inl ⟨At,ct,HFIT.out,rfl,HST.out,HB11.out⟩)
  have HB11:=bTx2 HBF hb11;have HNO:=oH hno;clear hb11 hno;go_wp2_with fail;rw [<-hQ.out];exact HKF.out _ _ (.inr ⟨HNO.out,rfl,HB11.out⟩)
 have hx9:¬(a:Int)<(pl:Int):=by omega
 clear hgo;go_wp2_with fail;clear k1;refine (zAy 0 _ dCx).mono ?_;rintro e w8 ⟨v8,rfl,hv8,hb8⟩;have HB8:=oH hb8;have HV8:=oH hv8;obtain ⟨na8,nb8,A8,B8,l8,c8,m8,d8,rfl⟩:=hv8.slice;have HRP:=oH (zFj w8.heap.size n ⟨na8,A8,l8,c8,nb8,B8,m8,d8⟩ (w8.alloc (.cells #[.bool na8,.slice A8 l8 c8,.bool nb8,.slice B8 m8 d8] 73)) (Blk.new _ _ _) hn1 oMx);have HB8a:=oH (HB8.alloc HB8.size (.cells #[.bool na8,.slice A8 l8 c8,.bool nb8,.slice B8 m8 d8] 73));have HV8a:=oH (HV8.below (bRx.alloc lRx (.cells #[.bool na8,.slice A8 l8 c8,.bool nb8,.slice B8 m8 d8] 73)));clear hv8 hb8;go_wp2_with fail;refine HRP.mono ?_;rintro e w9 ⟨g,rfl,hg,hbk,hb9⟩;have HB9:=bTx2 HB8a hb9
 have hgW:W.heap.size<=g:=by have:=HB8a.size;omega
 have HQ9:=oH (show RowQ w9 g (List.replicate n ⟨na8,A8,l8,c8,nb8,B8,m8,d8⟩) n (fun _=>0) from ⟨hbk,by simp,fun j hj=>by rw [List.getElem_replicate];exact HV8a.below hb9⟩);clear hbk hb9 hg;go_wp2_with fail;refine (zAy 1 _ dCx).mono ?_;rintro e w10 ⟨v10,rfl,hv10,hb10⟩;have HB10:=bTx2 HB9 hb10;have hq10:=HQ9.below hb10;have HV10:=oH hv10;have HQ10:=oH hq10;obtain ⟨nax,nbx,Ax,Bx,lx,cx,mx,dx,rfl⟩:=hv10.slice
 have har:a<(List.replicate n (FrV.mk na8 A8 l8 c8 nb8 B8 m8 d8)).length:=by simp;omega
 have e0:=hq10.blk.at_ (zNo har).1;have e1:=hq10.blk.at_ (zNo har).2.1;have e2:=hq10.blk.at_ (zNo har).2.2.1;have e3:=hq10.blk.at_ (zNo har).2.2.2;have f0:=hq10.blk.fr (a*4);have f1:=hq10.blk.fr (a*4+1);have f2:=hq10.blk.fr (a*4+2);have f3:=hq10.blk.fr (a*4+3)
 have hx1:(0:Int)<=(a:Int):=by omega
 have hx2:(a:Int)<(n:Int):=by omega
 clear hv10 hb10 hq10;go_wp2_with fail;clear e0 e1 e2 e3 f0 f1 f2 f3
 go_loopw [55] (fun iv wr=>∃ (i:Nat) (vs:List FrV) (q:Nat->Rat),iv = .int .i64 (i:Int)/\i<=a/\Below W.heap.size W wr/\RowQ wr g vs n q/\∀ j,q j=if j=a then 1 else if j<i then zPf s a j else 0) (fun iv _=>a-(intOf iv).toNat)
 ·exact ⟨0,_,_,rfl,oLx,((((HB10.setCell (p:=⟨g,a*4,none⟩) hgW _).setCell (p:=⟨g,a*4+1,none⟩) hgW _).setCell (p:=⟨g,a*4+2,none⟩) hgW _).setCell (p:=⟨g,a*4+3,none⟩) hgW _),HQ10.put (k:=a) oMx (u:=⟨nax,Ax,lx,cx,nbx,Bx,mx,dx⟩) HV10.out,fun j=>by
  by_cases e:j=a
  ·rw [if_pos e,if_pos e];rfl
  rw [if_neg e,if_neg e,if_neg oMx]⟩
 obtain ⟨i,vs,q,rfl,hi,hbw,hrq,hq⟩:=hrel;have HBW:=oH hbw;have HRQ:=oH hrq;have HQQ:=oH hq;clear hq
 by_cases hlt:i<a
 ·have him:i<rows4.length:=by have h9:=HEL.2.2;have h8:=HL4.out;omega
  have hrr:=HR6.below hbw;have hT:=HT6.below hbw;have p0:=hT.at_ (i:=0) rfl;have p2:=hT.at_ (i:=2) rfl;have p3:=hT.at_ (i:=3) rfl;have p4:=hrr.tab.cell (by rw [HL4.out]) him;obtain ⟨nbz,Sz,lz,cz,p5,p6,hz⟩:=hrr.tab.num_at him (k:=a) oMx;have HVv:=oH (show zBs wr (.agg #[.bool v.nb,.slice v.ad v.l v.c]) s.v from hrr.val);have hzl:=HEL.1 i a (by have:=HL4.out;omega);have hvl:=HEL.2.1;have hg1:grw 70 pl<=300000:=zOf lRx (by have:=HEL.2.2;omega);have HKQ:=oH (show Rat.divInt (-(s.P i a)) s.v=zPf s a i from by unfold zPf;rw [if_neg oMx,if_pos hlt]);have hrgW:rows4[i].g<W.heap.size:=(HR6.tab.blk him).2;have hRW:R4<W.heap.size:=(HR6.tab.o.lt R4 rfl).2;have hyW:=HT6.lt;generalize rows4[i].g=rg at *;generalize rows4[i].cp=rc at *;obtain ⟨z,hzz⟩:=eXx (s.P i a);rw [hzz] at hz hzl HKQ;have HZ:=oH hz
  have hz1:(limbs z.natAbs).length<=300000:=by unfold LL at hzl;omega
  have hz2:(limbs (-z).natAbs).length<=300000:=by rw [Int.natAbs_neg];exact hz1
  have hv1:(limbs s.v.natAbs).length<=300000:=by unfold LL at hvl;omega
  have hiv:i<vs.length:=by have:=HRQ.len;omega
  have KB:=oH (fun W' (hW:Below wr.heap.size wr W')=>(show W'.cell? ⟨y,0,none⟩=some (.slice (some ⟨R4,0,none⟩) rs.length cR4)/\W'.cell? ⟨y,2,none⟩=some (.bool v.nb)/\W'.cell? ⟨y,3,none⟩=some (.slice v.ad v.l v.c)/\W'.cell? ⟨R4,i,none⟩=some (.slice (some ⟨rg,0,none⟩) n rc)/\W'.cell? ⟨rg,a*2,none⟩=some (.bool nbz)/\W'.cell? ⟨rg,a*2+1,none⟩=some (.slice Sz lz cz) from ⟨kP hW p0,kP hW p2,kP hW p3,kP hW p4,kP hW p5,kP hW p6⟩));have KS0:Hid (wr.drew.cell? ⟨y,0,none⟩=some (.slice (some ⟨R4,0,none⟩) rs.length cR4)/\wr.drew.cell? ⟨y,2,none⟩=some (.bool v.nb)/\wr.drew.cell? ⟨y,3,none⟩=some (.slice v.ad v.l v.c)/\wr.drew.cell? ⟨R4,i,none⟩=some (.slice (some ⟨rg,0,none⟩) n rc)/\wr.drew.cell? ⟨rg,a*2,none⟩=some (.bool nbz)/\wr.drew.cell? ⟨rg,a*2+1,none⟩=some (.slice Sz lz cz)):=oH ⟨p0,p2,p3,p4,p5,p6⟩
  have i1:(0:Int)<=(i:Int):=by omega
  have i2:(i:Int)<(rs.length:Int):=by have:=HL4.out;omega
  have i3:(i:Int)<(n:Int):=by omega
  have i4:(0:Int)<=(a:Int):=by omega
  have i5:(a:Int)<(n:Int):=by omega
  have ny1:¬(g=y):=oMx;have ny2:¬(y=g):=oMx;have ny3:¬(g=R4):=oMx;have ny4:¬(R4=g):=oMx;have ny5:¬(g=rg):=oMx;have ny6:¬(rg=g):=oMx;clear hrr hT hz hzz hzl hvl hbw hrq;go_wp2_with fail
  go_region_held3 (fun w'=>w'.cell? ⟨y,0,none⟩=some (.slice (some ⟨R4,0,none⟩) rs.length cR4)/\w'.cell? ⟨y,2,none⟩=some (.bool v.nb)/\w'.cell? ⟨y,3,none⟩=some (.slice v.ad v.l v.c)/\w'.cell? ⟨R4,i,none⟩=some (.slice (some ⟨rg,0,none⟩) n rc)/\w'.cell? ⟨rg,a*2,none⟩=some (.bool nbz)/\w'.cell? ⟨rg,a*2+1,none⟩=some (.slice Sz lz cz)) (first|with_reducible exact KS0.out|with_reducible exact KSa.out|with_reducible exact KSb.out|go_keep) (first|(go_at_call 52;(with_reducible refine (zCo _ z _ (HZ.out.below (by first|with_reducible exact bRx|with_reducible exact bRx.drew)) oMx).mono ?_);rintro e wa ⟨va,rfl,hv,hb⟩;have hw:Below wr.heap.size wr wa:=Below.trans (by first|with_reducible exact bRx|with_reducible exact bRx.drew) hb;have HWa:=oH hw;have HVa:=oH hv;have KSa:=oH (KB.out wa hw);obtain ⟨xa,Xa,ya,za,rfl⟩:=hv.slice;clear hv hb hw)|(go_at_call 36;(with_reducible refine (zCp _ _ (-z) s.v _ HVa.out (HVv.out.below HWa.out) oMx oMx hv0).mono ?_);rintro e wb ⟨vb,rfl,hv,hb⟩;have HWb:=bTx2 HWa hb;have HVb:=oH hv;have KSb:=oH (KB.out wb HWb.out);have hrq:=HRQ.out.below HWb.out;have HRb:=oH hrq;have e0:=hrq.blk.at_ (zNo hiv).1;have e1:=hrq.blk.at_ (zNo hiv).2.1;have e2:=hrq.blk.at_ (zNo hiv).2.2.1;have e3:=hrq.blk.at_ (zNo hiv).2.2.2;have f0:=hrq.blk.fr (i*4);have f1:=hrq.blk.fr (i*4+1);have f2:=hrq.blk.fr (i*4+2);have f3:=hrq.blk.fr (i*4+3);obtain ⟨nb,nb',Ab,Ab',lb,cb,lb',cb',rfl⟩:=hv.slice;clear hv hb hrq))
  all_goals
   go_wp2_with fail;go_roundw
   case rel =>
    refine ⟨i+1,_,_,by go_num,oMx,(((((HBW.trans (HWb.mono HBW.size)).setCell (p:=⟨g,i*4,none⟩) hgW _).setCell (p:=⟨g,i*4+1,none⟩) hgW _).setCell (p:=⟨g,i*4+2,none⟩) hgW _).setCell (p:=⟨g,i*4+3,none⟩) hgW _),HRb.put (k:=i) oMx (u:=⟨nb,Ab,lb,cb,nb',Ab',lb',cb'⟩) HVb.out,fun j=>?_⟩;have h9:=HQQ.out j;have h8:=HKQ.out
    by_cases e:j=i
    ·subst e;rw [if_pos rfl,if_neg oMx,if_pos oMx];exact h8
    rw [if_neg e,h9]
    by_cases e2:j=a
    ·rw [if_pos e2,if_pos e2]
    rw [if_neg e2,if_neg e2]
    by_cases e3:j<i
    ·rw [if_pos e3,if_pos oMx]
    rw [if_neg e3,if_neg oMx]
   simp [intOf];omega
 obtain rfl:i=a:=by omega
 have hqs:∀ j,q j=zPf s i j:=fun j=>by
  rw [HQQ.out j];unfold zPf
  by_cases e:j=i
  ·rw [if_pos e,if_pos e]
  rw [if_neg e,if_neg e]
  by_cases e2:j<i
  ·rw [if_pos e2,if_pos e2]
  rw [if_neg e2,if_neg e2]
 have hlen:=HRQ.len
 have HTX:=zHc (some ⟨g,0,none⟩) vs ((List.range n).map (zPf s i)) n wr (fun j hj=>⟨g,0,rfl,HRQ.blk.lt,by rw [Nat.zero_add];exact HRQ.blk.at_ (zNo hj).1,by rw [Nat.zero_add];exact HRQ.blk.at_ (zNo hj).2.1,by rw [Nat.zero_add];exact HRQ.blk.at_ (zNo hj).2.2.1,by rw [Nat.zero_add];exact HRQ.blk.at_ (zNo hj).2.2.2⟩)
  ⟨by rw [List.length_map,List.length_range];exact hlen,fun j h1 h2=>by rw [List.getElem_map,List.getElem_range,<-hqs j];exact HRQ.num j h1⟩ oMx
  (fun x hx=>by
   obtain ⟨j,hj,rfl⟩:=List.mem_map.1 hx;unfold zPf
   split
   ·exact Sz.of1
   split
   ·rename_i h1 h2
    have h3:=HEL.1 j i (by have:=HEL.2.2;omega);have h4:=HEL.2.1;have hg1:grw 70 pl<=300000:=zOf lRx (by have:=HEL.2.2;omega);unfold LL at h3 h4;exact Sz.divInt hv0 (by rw [Int.natAbs_neg];omega) oMx
   exact Sz.zero.mono dCx) (HE.below (HB6.trans (hbw.mono HB6.size)))
 rw [hlen] at HTX;replace HTX:=oH HTX;have HBF:=bTx2 HB6 hbw;clear hbw hrq hqs hlen;go_wp2_with fail;refine HTX.mono ?_;have HKF:=oH (fun e w' (h:zGc w ((List.range n).map (zPf s i)) e w')=>(show zBv false s n w e w' from .inr ⟨by rw [HPL.out];exact hlt0,i,HFF.out,h⟩));have HLQ:=oH (show ((List.range n).map (zPf s i)).length=n by simp);generalize (List.range n).map (zPf s i)=ql at *;rintro e w11 (⟨At,ct,hfit,rfl,hst,hb11⟩|⟨hno,rfl,hb11⟩)
 ·have HB11:=bTx2 HBF hb11;have HST:=oH hst;have HFIT:=oH hfit;clear hb11 hst hfit;go_wp2_with fail;rw [<-hQ.out];exact HKF.out _ _ (.inl ⟨At,ct,HFIT.out,rfl,HST.out,HB11.out⟩)
 have HB11:=bTx2 HBF hb11;have HNO:=oH hno;clear hb11 hno;go_wp2_with fail;rw [<-hQ.out];exact HKF.out _ _ (.inr ⟨HNO.out,rfl,HB11.out⟩)
end Go.Proofs.YtbjaplppalcmgaaGreatDoor
