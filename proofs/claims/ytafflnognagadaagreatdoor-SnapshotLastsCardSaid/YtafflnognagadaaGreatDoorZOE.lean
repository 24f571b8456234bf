import Derived.Test.YtafflnognagadaaGreatDoorZOD
set_option maxHeartbeats 16000000
set_option maxRecDepth 100000
set_option linter.unusedVariables false
set_option linter.unusedSimpArgs false
set_option linter.unusedSectionVars false
namespace Go.Proofs.YtafflnognagadaaGreatDoor
open Go.RowKit
theorem zGd {B a b n c lo hi:Nat} {A:oAx} {T:List zGg} {w:World} {f:Value} (ho:zCo zOe B w (.slice A T.length c) T) (hl:T.length<=1000) (hab:a+n<=b) (hb:b+n<=T.length) (h1:lo<=a) (h2:b+n<=hi) :
  Calls Tryz.prog 128 #[.slice A T.length c,.int .i64 (a:Int),.int .i64 (b:Int),.int .i64 (n:Int),f] w fun e w'=>e = .returned (.tuple #[])/\∃ T',zCo zOe B w' (.slice A T.length c) T'/\Win T T' lo hi/\(∀ k,T'[k]? = swX T a b n k)/\Below B w w':=by
 have HO:=oH ho;clear ho
 go_enter Tryz.func128,Tryz.ntmps128
 go_wp2_with fail
 go_loopw [10] (fun iv wr=>∃ (i:Nat) (T':List zGg),iv = .int .i64 (i:Int)/\i<=n/\zCo zOe B wr (.slice A T.length c) T'/\Win T T' lo hi/\(∀ k,T'[k]? = swX T a b i k)/\Below B w wr) (fun iv _=>n-(intOf iv).toNat)
 ·exact ⟨0,T,rfl,oLx,HO.out,.refl _ _ _,fun k=>(swX_zero T a b k).symm,bRx⟩
 obtain ⟨i,T1,rfl,hi2,hown,hwin,hx,hbel⟩:=hrel;have HOWN:=oH hown;have HWIN:=oH hwin;have HX:=oH hx;have HBEL:=oH hbel;have hlen:=hwin.len;clear hown hwin hx hbel
 by_cases hlt:i<n
 ·have q1:a+i<T1.length:=by omega
  have q2:b+i<T1.length:=by omega
  obtain ⟨g,rfl,hgB, -⟩:=HOWN.some_ (by intro e;rw [e] at q1;simp at q1);obtain ⟨u1,z1, -, -,a1,a2,hu1⟩:=HOWN.row q1;obtain ⟨u2,z2, -, -,b1,b2,hu2⟩:=HOWN.row q2;obtain ⟨Au1,cu1,rfl, -⟩:=hu1.form;obtain ⟨Au2,cu2,rfl, -⟩:=hu2.form;generalize (rk T1 (a+i)).length=l1 at *;generalize (rk T1 (b+i)).length=l2 at *;have f1:=HOWN.frz ((a+i)*2);have f2:=HOWN.frz ((a+i)*2+1);have f3:=HOWN.frz ((b+i)*2);have f4:=HOWN.frz ((b+i)*2+1);have HSW:=oH (HOWN.swap q1 q2 a1 a2 b1 b2);have HWS:=oH (HWIN.trans (Win.swp (a:=lo) (b:=hi) q1 q2 oMx oMx oMx oMx));have HXS:=oH (swX_succ (T:=T) (a:=a) (b:=b) (n:=i) oMx q2 HX.out)
  have i1:IntKind.i64.wrap ((a:Int)+(i:Int))=((a+i:Nat):Int):=by rw [IntWalk.i64_in _ oMx];omega
  have i2:IntKind.i64.wrap ((b:Int)+(i:Int))=((b+i:Nat):Int):=by rw [IntWalk.i64_in _ oMx];omega
  have hpq:¬(a+i)=(b+i):=by omega
  have hqp:¬(b+i)=(a+i):=by omega
  generalize a+i=p at *;generalize b+i=q at *
  have d1:¬p*2+1=q*2:=by omega
  have d2:¬q*2=p*2+1:=by omega
  have d3:¬p*2=q*2+1:=by omega
  have d4:¬q*2+1=p*2:=by omega
  have i3:(p:Int)<(T.length:Int):=by omega
  have i4:(q:Int)<(T.length:Int):=by omega
  clear hu1 hu2;go_wp2_with fail
  go_region
  all_goals go_wp2_with fail
  all_goals go_roundw
  ·exact ⟨i+1,_,by go_num,oMx,HSW.1,HWS.out,HXS.out,(HBEL.trans HSW.2).drew⟩
  simp [intOf];omega
 obtain rfl:i=n:=by omega
 go_wp2_with fail
 go_end0
 exact ⟨rfl,T1,HOWN.out,HWIN.out,HX.out,HBEL.out⟩
theorem zFs {B a m b c:Nat} {A:oAx} {T:List zGg} {w:World} {f:Value} (ho:zCo zOe B w (.slice A T.length c) T) (hl:T.length<=1000) (ham:a<m) (hmb:m<b) (hb:b<=T.length) :
  Calls Tryz.prog 119 #[.slice A T.length c,.int .i64 (a:Int),.int .i64 (m:Int),.int .i64 (b:Int),f] w fun e w'=>e = .returned (.tuple #[])/\∃ T',zCo zOe B w' (.slice A T.length c) T'/\(T'.Perm T/\∀ k,T'[k]? = zTt T a m b k)/\Below B w w':=by
 have HO:=oH ho;clear ho
 have j1:IntKind.i64.wrap ((m:Int)-(a:Int))=((m-a:Nat):Int):=by rw [IntWalk.i64_in _ oMx];omega
 have j2:IntKind.i64.wrap ((b:Int)-(m:Int))=((b-m:Nat):Int):=by rw [IntWalk.i64_in _ oMx];omega
 have J1:=oH (show m-(m-a)=a by omega);have J2:=oH (show m+(b-m)=b by omega)
 have p1:0<m-a:=by omega
 have p2:0<b-m:=by omega
 have p3:m-a<=m:=by omega
 have p4:m+(b-m)<=T.length:=by omega
 generalize hi0:m-a=i0 at *;generalize hj0:b-m=j0 at *
 go_enter Tryz.func119,Tryz.ntmps119
 go_wp2_with fail;clear hi0 hj0 j1 j2
 go_loopw [10,11] (fun iv jv wr=>∃ (i j:Nat) (T':List zGg),iv = .int .i64 (i:Int)/\jv = .int .i64 (j:Int)/\0<i/\0<j/\i<=m/\m+j<=T.length/\i<=i0/\j<=j0/\zCo zOe B wr (.slice A T.length c) T'/\T'.Perm T/\(∀ k,zTt T' (m-i) m (m+j) k=zTt T a m b k)/\Below B w wr) (fun iv jv _=>(intOf iv).toNat+(intOf jv).toNat)
 ·exact ⟨i0,j0,T,rfl,rfl,p1,p2,p3,p4,lRx,lRx,HO.out,.refl _,fun k=>by rw [J1.out,J2.out],bRx⟩
 obtain ⟨i,j,T1,rfl,rfl,hi1,hj1,him,hjm,hii,hjj,hown,hperm,hx,hbel⟩:=hrel;have HOWN:=oH hown;have HP:=oH hperm;have HX:=oH hx;have HBEL:=oH hbel;have hlen:=hperm.length_eq;clear hown hperm hx hbel
 by_cases hij:i=j
 ·subst hij
  have hne:((i:Int) != (i:Int))=false:=by simp
  have k1:IntKind.i64.wrap ((m:Int)-(i:Int))=((m-i:Nat):Int):=by rw [IntWalk.i64_in _ oMx];omega
  have HC:=oH (zGd (a:=m-i) (b:=m) (n:=i) (lo:=0) (hi:=T1.length) (f:=f) (c:=c) (show zCo zOe B wr (.slice A T1.length c) T1 by rw [hlen];exact HOWN.out) oMx oMx oMx oMx oMx);rw [hlen] at HC;go_wp2_with fail;refine HC.mono ?_;rintro e w2 ⟨rfl,T2,ho2,hw2,hs2,hb2⟩;have HO2:=oH ho2;have HB2:=oH (HBEL.trans hb2);have HP2:=oH (hw2.perm.trans HP.out);have HX2:=oH (fun k=>(rot_eq him hs2 k).trans (HX.out k));clear ho2 hw2 hs2 hb2;go_wp2_with fail
  go_end0
  exact ⟨rfl,T2,HO2.out,⟨HP2.out,HX2.out⟩,HB2.out⟩
 have hne:((i:Int) != (j:Int))=true:=by simp;omega
 by_cases hgt:j<i
 ·have k1:IntKind.i64.wrap ((m:Int)-(i:Int))=((m-i:Nat):Int):=by rw [IntWalk.i64_in _ oMx];omega
  have k2:IntKind.i64.wrap ((i:Int)-(j:Int))=((i-j:Nat):Int):=by rw [IntWalk.i64_in _ oMx];omega
  have hgi:(j:Int)<(i:Int):=by omega
  have HC:=oH (zGd (a:=m-i) (b:=m) (n:=j) (lo:=0) (hi:=T1.length) (f:=f) (c:=c) (show zCo zOe B wr (.slice A T1.length c) T1 by rw [hlen];exact HOWN.out) oMx oMx oMx oMx oMx);rw [hlen] at HC;go_wp2_with fail;refine HC.mono ?_;rintro e w2 ⟨rfl,T2,ho2,hw2,hs2,hb2⟩;have HO2:=oH ho2;have HB2:=oH (HBEL.trans hb2);have HP2:=oH (hw2.perm.trans HP.out);have HX2:=oH (fun k=>(rot_gt hgt him hs2 k).trans (HX.out k));clear ho2 hw2 hs2 hb2;go_wp2_with fail;go_roundw
  ·exact ⟨i-j,j,T2,rfl,rfl,oMx,hj1,oMx,hjm,oMx,hjj,HO2.out,HP2.out,HX2.out,HB2.out⟩
  simp [intOf];omega
 have k1:IntKind.i64.wrap ((m:Int)-(i:Int))=((m-i:Nat):Int):=by rw [IntWalk.i64_in _ oMx];omega
 have k2:IntKind.i64.wrap ((j:Int)-(i:Int))=((j-i:Nat):Int):=by rw [IntWalk.i64_in _ oMx];omega
 have k3:IntKind.i64.wrap ((m:Int)+(j:Int))=((m+j:Nat):Int):=by rw [IntWalk.i64_in _ oMx];omega
 have k4:IntKind.i64.wrap (((m+j:Nat):Int)-(i:Int))=((m+j-i:Nat):Int):=by rw [IntWalk.i64_in _ oMx];omega
 have hgi:¬(j:Int)<(i:Int):=by omega
 have HC:=oH (zGd (a:=m-i) (b:=m+j-i) (n:=i) (lo:=0) (hi:=T1.length) (f:=f) (c:=c) (show zCo zOe B wr (.slice A T1.length c) T1 by rw [hlen];exact HOWN.out) oMx oMx oMx oMx oMx);rw [hlen] at HC;generalize hmj:m+j=mj at k3 k4 HC;go_wp2_with fail;refine HC.mono ?_;rintro e w2 ⟨rfl,T2,ho2,hw2,hs2,hb2⟩;rw [<-hmj] at hs2;have HO2:=oH ho2;have HB2:=oH (HBEL.trans hb2);have HP2:=oH (hw2.perm.trans HP.out);have HX2:=oH (fun k=>(rot_lt oMx him hs2 k).trans (HX.out k));clear ho2 hw2 hs2 hb2;go_wp2_with fail;go_roundw
 ·exact ⟨i,j-i,T2,rfl,rfl,hi1,oMx,him,oMx,hii,oMx,HO2.out,HP2.out,HX2.out,HB2.out⟩
 simp [intOf];omega
def RetS (B a b c:Nat) (A:oAx) (T:List zGg) (w:World) (e:Ending) (w':World):Prop:=e = .returned (.tuple #[])/\∃ T',zCo zOe B w' (.slice A T.length c) T'/\Win T T' a b/\zGb T' a b/\Below B w w'
theorem zTp {T T':List zGg} (hp:T'.Perm T) (hT:∀ r∈T,r.1.length<=1000) {k:Nat} (hk:k<T'.length):(rk T' k).length<=1000:=hT _ (hp.mem_iff.1 (by show T'.getD k zLe∈T';rw [show T'.getD k zLe=T'[k] by simp [hk]];exact List.getElem_mem hk))
theorem zCo.two {B c x y:Nat} {A:oAx} {T:List zGg} {w:World} (h:zCo zOe B w (.slice A T.length c) T) (hT:∀ r∈T,r.1.length<=1000) (hx:x<T.length) (hy:y<T.length) :
  ∃ g A1 l1 c1 z1 A2 l2 c2 z2 cz,A=some ⟨g,0,none⟩/\decide (cz<0)=ltL (rk T x) (rk T y) /\
   (∀ W,Below w.heap.size w W->W.cell? ⟨g,x*2,none⟩=some (.slice A1 l1 c1)/\W.cell? ⟨g,x*2+1,none⟩=some (.int .i64 z1)/\W.cell? ⟨g,y*2,none⟩=some (.slice A2 l2 c2)/\W.cell? ⟨g,y*2+1,none⟩=some (.int .i64 z2)) /\
   (∀ W,Below w.heap.size w W->Calls Tryz.prog 83 #[.agg #[.slice A1 l1 c1,.int .i64 z1],.agg #[.slice A2 l2 c2,.int .i64 z2]] W fun e w'=>e = .returned (.int .i64 cz)/\Below W.heap.size W w'):=by
 obtain ⟨g,rfl,hgB,hgl⟩:=h.some_ (by intro e;rw [e] at hx;simp at hx);obtain ⟨u1,z1, -, -,a1,a2,hu1⟩:=h.row hx;obtain ⟨u2,z2, -, -,b1,b2,hu2⟩:=h.row hy;obtain ⟨A1,c1,rfl, -⟩:=hu1.form;obtain ⟨A2,c2,rfl, -⟩:=hu2.form
 exact ⟨g,A1,_,c1,z1,A2,_,c2,z2,_,rfl,zJw _ _,fun W hW=>⟨(hW.cell (p:=⟨g,x*2,none⟩) hgl).trans a1,(hW.cell (p:=⟨g,x*2+1,none⟩) hgl).trans a2,(hW.cell (p:=⟨g,y*2,none⟩) hgl).trans b1,(hW.cell (p:=⟨g,y*2+1,none⟩) hgl).trans b2⟩,
  fun W hW=>zBz (hu1.below hW) (hu2.below hW) (zTp (.refl _) hT hx) (zTp (.refl _) hT hy)⟩
theorem Sym_left {B a m b c:Nat} {A:oAx} {T:List zGg} {w:World} (ho:zCo zOe B w (.slice A T.length c) T) (hT:∀ r∈T,r.1.length<=1000) (hl:T.length<=1000) (ham:a<m) (hmb:m<b) (hb:b<=T.length) (hB:B<=w.heap.size) (hs1:zGb T a m) (hs2:zGb T m b) (h1:m=a+1) :
  Calls Tryz.prog 111 #[.slice A T.length c,.int .i64 (a:Int),.int .i64 (m:Int),.int .i64 (b:Int),.func (.func 83) #[] #[]] w (RetS B a b c A T w):=by
 have HO:=oH ho;have HT:=oH hT;have HS1:=oH hs1;have HS2:=oH hs2;clear ho hT hs1 hs2
 have hm1:m<=a+1:=by omega
 have hm2:a+1<=m:=by omega
 have d1:IntKind.i64.wrap ((m:Int)-(a:Int))=1:=by rw [IntWalk.i64_in _ oMx];omega
 clear h1
 go_enter Tryz.func111,Tryz.ntmps111
 go_wp2_with fail;clear d1
 go_loopw [10,11] (fun iv jv wr=>∃ i j:Nat,iv = .int .i64 (i:Int)/\jv = .int .i64 (j:Int)/\m<=i/\i<=j/\j<=b/\(i=m\/ltL (rk T (i-1)) (rk T a)=true)/\(j=b\/ltL (rk T j) (rk T a)=false)/\zCo zOe B wr (.slice A T.length c) T/\Below B w wr) (fun iv jv _=>(intOf jv).toNat-(intOf iv).toNat)
 ·exact ⟨m,b,rfl,rfl,lRx,oMx,lRx,.inl rfl,.inl rfl,HO.out,bRx⟩
 obtain ⟨i,j,rfl,rfl,hmi,hij,hjb,hlo,hhi,hown,hbel⟩:=hrel;have HLO:=oH hlo;have HHI:=oH hhi;have HOWN:=oH hown;have HBEL:=oH hbel;clear hlo hhi hown hbel
 by_cases hlt:i<j
 ·have i1:IntKind.i64.wrap ((i:Int)+(j:Int))=((i+j:Nat):Int):=by rw [IntWalk.i64_in _ oMx];omega
  obtain ⟨h,hh,hih,hhj⟩:∃ h:Nat,((i:Int)+(j:Int))/2=(h:Int)/\i<=h/\h<j:=⟨(i+j)/2,oMx,oMx,oMx⟩;obtain ⟨g,A1,l1,c1,z1,A2,l2,c2,z2,cz,rfl,hneg,hkb,hcmp⟩:=HOWN.two HT.out (x:=h) (y:=a) oMx oMx
  have hx0:h<T.length:=by omega
  have hy0:a<T.length:=by omega
  obtain ⟨lb,hlb⟩:=eXx (ltL (rk T (h)) (rk T (a)));rw [hlb] at hneg;have HLB:=oH hlb;clear hlb;have HCMP:=oH hcmp;have KB:=oH hkb;have HWz:=oH (Below.refl wr.heap.size wr).drew;have HKW:=oH (show ∀ W,Below wr.heap.size wr W->zCo zOe B W (.slice (some ⟨g,0,none⟩) T.length c) T/\Below B w W from fun W hW=>⟨HOWN.below hW,HBEL.trans (hW.mono (Nat.le_trans hB HBEL.size))⟩);clear hkb hcmp;go_wp2_with fail;refine wp_region_held_drew (S:=(fun w'=>w'.cell? ⟨g,h*2,none⟩=some (.slice A1 l1 c1)/\w'.cell? ⟨g,h*2+1,none⟩=some (.int .i64 z1)/\w'.cell? ⟨g,a*2,none⟩=some (.slice A2 l2 c2)/\w'.cell? ⟨g,a*2+1,none⟩=some (.int .i64 z2))) (by kernel_rfl) (by exact KB.out _ HWz.out) (fun hHeld=>?_);refine tkH 0 ?_;refine tkH 1 ?_;refine tkH 2 ?_;refine tkH 3 ?_;refine tkH 4 ?_;refine tkH 5 ?_;refine tkH 6 ?_;refine tkH 7 ?_;refine tkH 8 ?_
  try simp only [Act.put,tkA,tkB,tkC]
  refine tkS 9 fun K hK=>?_
  go_simp
  (go_at_call 83;(with_reducible refine (HCMP.out _ HWz.out).mono ?_);rintro e wa ⟨rfl,hb⟩;have hw:Below wr.heap.size wr wa:=HWz.out.trans (hb.mono HWz.out.size);have HWa:=oH hw;clear hb hw)
  go_wp2_with fail;refine hK.out _ _ ?_ (fun hHeld=>?_)
  ·first|with_reducible exact KB.out _ HWa.out
  clear hK K
  try simp only [Act.put,tkA,tkB,tkC]
  refine tkH 10 ?_
  try simp only [Act.put,tkA,tkB,tkC]
  refine wpAnyH_done (by kernel_rfl) ?_ _
  try rw [hneg]
  have HK2:=oH (HKW.out wa HWa.out);clear hneg KB HCMP
  cases lb
  ·have E:=oH (show h=b\/ltL (rk T h) (rk T a)=false from .inr HLB.out);go_wp2_with fail;go_roundw
   ·exact ⟨i,h,rfl,rfl,hmi,hih,oMx,HLO.out,E.out,HK2.1,HK2.2⟩
   simp [intOf];omega
  have E:=oH (show h+1=m\/ltL (rk T (h+1-1)) (rk T a)=true from .inr HLB.out);go_wp2_with fail;go_roundw
  ·exact ⟨h+1,j,by go_num,rfl,oMx,oMx,hjb,E.out,HHI.out,HK2.1,HK2.2⟩
  simp [intOf];omega
 obtain rfl:i=j:=by omega
 have HUP:=oH (show UpI T a b i a from ⟨fun p q p1 p2 p3 p4 p5=>HS2.out p q oMx p2 p3,fun p p1 p2 p3=>by
  rcases HLO.out with h0|h0
  ·omega
  ·by_cases e:p=i-1
   ·rw [e];exact .of_lt h0
   exact (HS2.out p (i-1) oMx oMx oMx).trans (.of_lt h0),fun q q1 q2=>by
  rcases HHI.out with h0|h0
  ·omega
  by_cases e:q=i
  ·rw [e];exact h0
  exact leK.trans h0 (HS2.out i q oMx oMx q2)⟩)
 obtain ⟨wi,rfl⟩:=nWx wr
 have k1:IntKind.i64.wrap ((i:Int)-1)=((i-1:Nat):Int):=by rw [IntWalk.i64_in _ oMx];omega
 go_wp2_with fail
 go_loopw [13] (fun kv wr=>∃ (k:Nat) (T1:List zGg),kv = .int .i64 (k:Int)/\a<=k/\k+1<=i/\zCo zOe B wr (.slice A T.length c) T1/\Win T T1 a b/\UpI T1 a b i k/\Below B w wr) (fun kv _=>i-(intOf kv).toNat)
 ·exact ⟨a,T,rfl,lRx,oMx,HOWN.out,.refl _ _ _,HUP.out,HBEL.out⟩
 obtain ⟨k,T1,rfl,hak,hki,hown,hwin,hup,hb1⟩:=hrel;have HOWN:=oH hown;have HWIN:=oH hwin;have HU:=oH hup;have HB1:=oH hb1;have hlen:=hwin.len;clear hown hwin hup hb1
 by_cases hk2:k+1<i
 ·have q1:(k:Int)<((i-1:Nat):Int):=by omega
  have k2:IntKind.i64.wrap ((k:Int)+1)=((k+1:Nat):Int):=by rw [IntWalk.i64_in _ oMx];omega
  have k3:(k:Int)+1<(T.length:Int):=by omega
  have k4:(0:Int)<=(k:Int)+1:=by omega
  have k5:((k:Int)+1).toNat=k+1:=by omega
  have k6:(k:Int)<(T.length:Int):=by omega
  have hln:k<T1.length:=by omega
  have hln2:k+1<T1.length:=by omega
  obtain ⟨g,rfl,hgB, -⟩:=HOWN.some_ (by intro e;rw [e] at hln;simp at hln);obtain ⟨u1,z1, -, -,a1,a2,hu1⟩:=HOWN.row hln;obtain ⟨u2,z2, -, -,b1,b2,hu2⟩:=HOWN.row hln2;obtain ⟨Au1,cu1,rfl, -⟩:=hu1.form;obtain ⟨Au2,cu2,rfl, -⟩:=hu2.form;generalize (rk T1 (k)).length=l1 at *;generalize (rk T1 (k+1)).length=l2 at *;have f1:=HOWN.frz ((k)*2);have f2:=HOWN.frz ((k)*2+1);have f3:=HOWN.frz ((k+1)*2);have f4:=HOWN.frz ((k+1)*2+1);have HSW:=oH (HOWN.swap hln hln2 a1 a2 b1 b2);have HWS:=oH (HWIN.trans (Win.swp (a:=a) (b:=b) hln hln2 oMx oMx oMx oMx));clear hu1 hu2;have HN:=oH (HU.step hak hk2 oMx oMx);go_wp2_with fail
  go_region
  all_goals go_wp2_with fail
  all_goals go_roundw
  ·exact ⟨k+1,_,by go_num,oMx,oMx,HSW.1,HWS.out,HN.out,(HB1.trans HSW.2).drew⟩
  simp [intOf];omega
 have q1:¬(k:Int)<((i-1:Nat):Int):=by omega
 have E:=oH (HU.done (.inl oMx));go_wp2_with fail
 go_end0
 exact ⟨rfl,T1,HOWN.out,HWIN.out,E.out,HB1.out⟩
theorem zGf {B a m b c:Nat} {A:oAx} {T:List zGg} {w:World} (ho:zCo zOe B w (.slice A T.length c) T) (hT:∀ r∈T,r.1.length<=1000) (hl:T.length<=1000) (ham:a<m) (hmb:m<b) (hb:b<=T.length) (hB:B<=w.heap.size) (hs1:zGb T a m) (hs2:zGb T m b) (h0:a+1<m) (h1:b=m+1) :
  Calls Tryz.prog 111 #[.slice A T.length c,.int .i64 (a:Int),.int .i64 (m:Int),.int .i64 (b:Int),.func (.func 83) #[] #[]] w (RetS B a b c A T w):=by
 have HO:=oH ho;have HT:=oH hT;have HS1:=oH hs1;have HS2:=oH hs2;clear ho hT hs1 hs2
 have hm1:b<=m+1:=by omega
 have hm2:m+1<=b:=by omega
 have d1:IntKind.i64.wrap ((m:Int)-(a:Int))=((m-a:Nat):Int):=by rw [IntWalk.i64_in _ oMx];omega
 have d2:((((m-a:Nat):Int))==1)=false:=by rw [beq_eq_false_iff_ne];omega
 have d3:IntKind.i64.wrap ((b:Int)-(m:Int))=1:=by rw [IntWalk.i64_in _ oMx];omega
 generalize m-a=ma at *;clear h1
 go_enter Tryz.func111,Tryz.ntmps111
 go_wp2_with fail;clear d1 d2 d3
 go_loopw [14,15] (fun iv jv wr=>∃ i j:Nat,iv = .int .i64 (i:Int)/\jv = .int .i64 (j:Int)/\a<=i/\i<=j/\j<=m/\(i=a\/ltL (rk T m) (rk T (i-1))=false)/\(j=m\/ltL (rk T m) (rk T j)=true)/\zCo zOe B wr (.slice A T.length c) T/\Below B w wr) (fun iv jv _=>(intOf jv).toNat-(intOf iv).toNat)
 ·exact ⟨a,m,rfl,rfl,lRx,oMx,lRx,.inl rfl,.inl rfl,HO.out,bRx⟩
 obtain ⟨i,j,rfl,rfl,hmi,hij,hjb,hlo,hhi,hown,hbel⟩:=hrel;have HLO:=oH hlo;have HHI:=oH hhi;have HOWN:=oH hown;have HBEL:=oH hbel;clear hlo hhi hown hbel
 by_cases hlt:i<j
 ·have i1:IntKind.i64.wrap ((i:Int)+(j:Int))=((i+j:Nat):Int):=by rw [IntWalk.i64_in _ oMx];omega
  obtain ⟨h,hh,hih,hhj⟩:∃ h:Nat,((i:Int)+(j:Int))/2=(h:Int)/\i<=h/\h<j:=⟨(i+j)/2,oMx,oMx,oMx⟩;obtain ⟨g,A1,l1,c1,z1,A2,l2,c2,z2,cz,rfl,hneg,hkb,hcmp⟩:=HOWN.two HT.out (x:=m) (y:=h) oMx oMx
  have hx0:m<T.length:=by omega
  have hy0:h<T.length:=by omega
  obtain ⟨lb,hlb⟩:=eXx (ltL (rk T (m)) (rk T (h)));rw [hlb] at hneg;have HLB:=oH hlb;clear hlb;have HCMP:=oH hcmp;have KB:=oH hkb;have HWz:=oH (Below.refl wr.heap.size wr).drew;have HKW:=oH (show ∀ W,Below wr.heap.size wr W->zCo zOe B W (.slice (some ⟨g,0,none⟩) T.length c) T/\Below B w W from fun W hW=>⟨HOWN.below hW,HBEL.trans (hW.mono (Nat.le_trans hB HBEL.size))⟩);clear hkb hcmp;go_wp2_with fail;refine wp_region_held_drew (S:=(fun w'=>w'.cell? ⟨g,m*2,none⟩=some (.slice A1 l1 c1)/\w'.cell? ⟨g,m*2+1,none⟩=some (.int .i64 z1)/\w'.cell? ⟨g,h*2,none⟩=some (.slice A2 l2 c2)/\w'.cell? ⟨g,h*2+1,none⟩=some (.int .i64 z2))) (by kernel_rfl) (by exact KB.out _ HWz.out) (fun hHeld=>?_);refine tkH 0 ?_;refine tkH 1 ?_;refine tkH 2 ?_;refine tkH 3 ?_;refine tkH 4 ?_;refine tkH 5 ?_;refine tkH 6 ?_;refine tkH 7 ?_;refine tkH 8 ?_
  try simp only [Act.put,tkA,tkB,tkC]
  refine tkS 9 fun K hK=>?_
  go_simp
  (go_at_call 83;(with_reducible refine (HCMP.out _ HWz.out).mono ?_);rintro e wa ⟨rfl,hb⟩;have hw:Below wr.heap.size wr wa:=HWz.out.trans (hb.mono HWz.out.size);have HWa:=oH hw;clear hb hw)
  go_wp2_with fail;refine hK.out _ _ ?_ (fun hHeld=>?_)
  ·first|with_reducible exact KB.out _ HWa.out
  clear hK K
  try simp only [Act.put,tkA,tkB,tkC]
  refine tkH 10 ?_;refine tkH 11 ?_
  try simp only [Act.put,tkA,tkB,tkC]
  refine wpAnyH_done (by kernel_rfl) ?_ _
  try rw [hneg]
  have HK2:=oH (HKW.out wa HWa.out);clear hneg KB HCMP
  cases lb
  ·have E:=oH (show h+1=a\/ltL (rk T m) (rk T (h+1-1))=false from .inr HLB.out);go_wp2_with fail;go_roundw
   ·exact ⟨h+1,j,by go_num,rfl,oMx,oMx,hjb,E.out,HHI.out,HK2.1,HK2.2⟩
   simp [intOf];omega
  have E:=oH (show h=m\/ltL (rk T m) (rk T h)=true from .inr HLB.out);go_wp2_with fail;go_roundw
  ·exact ⟨i,h,rfl,rfl,hmi,hih,oMx,HLO.out,E.out,HK2.1,HK2.2⟩
  simp [intOf];omega
 obtain rfl:i=j:=by omega
 have HUP:=oH (show UpI T a b i m from ⟨fun p q p1 p2 p3 p4 p5=>HS1.out p q p1 p2 oMx,fun p p1 p2 p3=>by
  rcases HLO.out with h0|h0
  ·omega
  ·by_cases e:p=i-1
   ·rw [e];exact h0
   exact (HS1.out p (i-1) p1 oMx oMx).trans h0,fun q q1 q2=>by
  by_cases e0:q=m
  ·rw [e0];exact .refl _
  rcases HHI.out with h0|h0
  ·omega
  by_cases e:q=i
  ·rw [e];exact .of_lt h0
  exact (leK.of_lt h0).trans (HS1.out i q oMx oMx oMx)⟩)
 obtain ⟨wi,rfl⟩:=nWx wr;go_wp2_with fail
 go_loopw [17] (fun kv wr=>∃ (k:Nat) (T1:List zGg),kv = .int .i64 (k:Int)/\i<=k/\k<b/\zCo zOe B wr (.slice A T.length c) T1/\Win T T1 a b/\UpI T1 a b i k/\Below B w wr) (fun kv _=>(intOf kv).toNat)
 ·exact ⟨m,T,rfl,oMx,oMx,HOWN.out,.refl _ _ _,HUP.out,HBEL.out⟩
 obtain ⟨k,T1,rfl,hak,hki,hown,hwin,hup,hb1⟩:=hrel;have HOWN:=oH hown;have HWIN:=oH hwin;have HU:=oH hup;have HB1:=oH hb1;have hlen:=hwin.len;clear hown hwin hup hb1
 by_cases hk2:i<k
 ·have HN:=oH (HU.down hk2 hki oMx oMx);obtain ⟨p,rfl⟩:∃ p,k=p+1:=⟨k-1,oMx⟩;rw [Nat.add_sub_cancel] at HN
  have q1:(i:Int)<(p:Int)+1:=by omega
  have k0:IntKind.i64.wrap (p:Int)=(p:Int):=IntWalk.i64_in _ oMx
  have k1:IntKind.i64.wrap ((p:Int)+1-1)=(p:Int):=by rw [Int.add_sub_cancel];exact IntWalk.i64_in _ oMx
  have k3:(p:Int)+1<(T.length:Int):=by omega
  have k4:(0:Int)<=(p:Int)+1:=by omega
  have k5:((p:Int)+1).toNat=p+1:=by omega
  have k6:(p:Int)<(T.length:Int):=by omega
  rw [Int.natCast_succ]
  have hln:p+1<T1.length:=by omega
  have hln2:p<T1.length:=by omega
  obtain ⟨g,rfl,hgB, -⟩:=HOWN.some_ (by intro e;rw [e] at hln;simp at hln);obtain ⟨u1,z1, -, -,a1,a2,hu1⟩:=HOWN.row hln;obtain ⟨u2,z2, -, -,b1,b2,hu2⟩:=HOWN.row hln2;obtain ⟨Au1,cu1,rfl, -⟩:=hu1.form;obtain ⟨Au2,cu2,rfl, -⟩:=hu2.form;generalize (rk T1 (p+1)).length=l1 at *;generalize (rk T1 (p)).length=l2 at *;have f1:=HOWN.frz ((p+1)*2);have f2:=HOWN.frz ((p+1)*2+1);have f3:=HOWN.frz ((p)*2);have f4:=HOWN.frz ((p)*2+1);have HSW:=oH (HOWN.swap hln hln2 a1 a2 b1 b2);have HWS:=oH (HWIN.trans (Win.swp (a:=a) (b:=b) hln hln2 oMx oMx oMx oMx));clear hu1 hu2;go_wp2_with fail
  go_region
  all_goals go_wp2_with fail
  all_goals go_roundw
  ·exact ⟨p,_,by go_num,oMx,oMx,HSW.1,HWS.out,HN.out,(HB1.trans HSW.2).drew⟩
  simp [intOf]
 have q1:¬(i:Int)<(k:Int):=by omega
 have E:=oH (HU.done (.inr oMx));go_wp2_with fail
 go_end0
 exact ⟨rfl,T1,HOWN.out,HWIN.out,E.out,HB1.out⟩
theorem Sym_gen {B a m b c:Nat} {A:oAx} {T:List zGg} {w:World} (ho:zCo zOe B w (.slice A T.length c) T) (hT:∀ r∈T,r.1.length<=1000) (hl:T.length<=1000) (ham:a<m) (hmb:m<b) (hb:b<=T.length) (hB:B<=w.heap.size) (hs1:zGb T a m) (hs2:zGb T m b) (h0:a+1<m) (h1:m+1<b) (IH:∀ (a' m' b':Nat) (T':List zGg) (w':World),b'-a'<b-a->zCo zOe B w' (.slice A T'.length c) T'->(∀ r∈T',r.1.length<=1000)->T'.length<=1000->a'<m'->m'<b'->b'<=T'.length->B<=w'.heap.size->zGb T' a' m'->zGb T' m' b' ->
      Calls Tryz.prog 111 #[.slice A T'.length c,.int .i64 (a':Int),.int .i64 (m':Int),.int .i64 (b':Int),.func (.func 83) #[] #[]] w' (RetS B a' b' c A T' w')):
  Calls Tryz.prog 111 #[.slice A T.length c,.int .i64 (a:Int),.int .i64 (m:Int),.int .i64 (b:Int),.func (.func 83) #[] #[]] w (RetS B a b c A T w):=by
 have HO:=oH ho;have HT:=oH hT;have HS1:=oH hs1;have HS2:=oH hs2;clear ho hT hs1 hs2
 have d1:IntKind.i64.wrap ((m:Int)-(a:Int))=((m-a:Nat):Int):=by rw [IntWalk.i64_in _ oMx];omega
 have d2:((((m-a:Nat):Int))==1)=false:=by rw [beq_eq_false_iff_ne];omega
 have d3:IntKind.i64.wrap ((b:Int)-(m:Int))=((b-m:Nat):Int):=by rw [IntWalk.i64_in _ oMx];omega
 have d4:((((b-m:Nat):Int))==1)=false:=by rw [beq_eq_false_iff_ne];omega
 generalize m-a=ma at d1 d2;generalize b-m=bm at d3 d4;obtain ⟨mid,hmid,hma,hmb⟩:∃ h:Nat,((a:Int)+(b:Int))/2=(h:Int)/\2*h<=a+b/\a+b<2*h+2:=⟨(a+b)/2,oMx,oMx,oMx⟩
 have i1:IntKind.i64.wrap ((a:Int)+(b:Int))=((a+b:Nat):Int):=by rw [IntWalk.i64_in _ oMx];omega
 obtain ⟨n,hn1,hn2⟩:∃ n,n<=mid+m/\mid+m<=n:=⟨mid+m,lRx,lRx⟩
 have i2:IntKind.i64.wrap ((mid:Int)+(m:Int))=(n:Int):=by rw [IntWalk.i64_in _ oMx];omega
 have HIH:=oH IH;clear IH
 go_enter Tryz.func111,Tryz.ntmps111
 go_upto_if 140 with (fail)
 clear d1 d2 d3 d4 hmid i1 i2
 go_cut [20,21] from 140 to 146 (fun sv rv wc=>∃ s0 r0:Nat,sv = .int .i64 (s0:Int)/\rv = .int .i64 (r0:Int)/\a<=s0/\s0<=r0/\r0<=m/\r0<=mid/\m+r0<=n/\n<=b+s0/\(s0=a\/n=b+s0)/\(r0=m\/n=m+r0)/\w=wc)
 case first =>
  by_cases hgt:mid<m
  ·have hg:(mid:Int)<(m:Int):=by omega
   have k1:IntKind.i64.wrap ((n:Int)-(b:Int))=((n-b:Nat):Int):=by rw [IntWalk.i64_in _ oMx];omega
   go_wp2_with fail
   go_meet
   exact ⟨n-b,mid,rfl,rfl,oMx,oMx,oMx,oMx,oMx,oMx,oMx,oMx,rfl⟩
  have hg:¬(mid:Int)<(m:Int):=by omega
  go_wp2_with fail
  go_meet
  exact ⟨a,m,rfl,rfl,oMx,oMx,oMx,oMx,oMx,oMx,oMx,oMx,rfl⟩
 case rest =>
  obtain ⟨s0,r0,rfl,rfl,z1,z2,z3,z4,z5,z6,z7,z8,rfl⟩:=hcut
  have k0:IntKind.i64.wrap ((n:Int)-1)=((n-1:Nat):Int):=by rw [IntWalk.i64_in _ oMx];omega
  go_wp2_with fail;clear k0
  go_loopw [20,21] (fun iv jv wr=>∃ i j:Nat,iv = .int .i64 (i:Int)/\jv = .int .i64 (j:Int)/\s0<=i/\i<=j/\j<=r0/\(i=s0\/leK (rk T (i-1)) (rk T (n-i)))/\(j=r0\/ltL (rk T (n-1-j)) (rk T j)=true)/\zCo zOe B wr (.slice A T.length c) T/\Below B w wr) (fun iv jv _=>(intOf jv).toNat-(intOf iv).toNat)
  ·exact ⟨s0,r0,rfl,rfl,lRx,z2,lRx,.inl rfl,.inl rfl,HO.out,bRx⟩
  obtain ⟨i,j,rfl,rfl,hmi,hij,hjb,hlo,hhi,hown,hbel⟩:=hrel;have HLO:=oH hlo;have HHI:=oH hhi;have HOWN:=oH hown;have HBEL:=oH hbel;clear hlo hhi hown hbel
  by_cases hlt:i<j
  ·have i1:IntKind.i64.wrap ((i:Int)+(j:Int))=((i+j:Nat):Int):=by rw [IntWalk.i64_in _ oMx];omega
   obtain ⟨h,hh,hih,hhj⟩:∃ h:Nat,((i:Int)+(j:Int))/2=(h:Int)/\i<=h/\h<j:=⟨(i+j)/2,oMx,oMx,oMx⟩;obtain ⟨g,A1,l1,c1,z1,A2,l2,c2,z2,cz,rfl,hneg,hkb,hcmp⟩:=HOWN.two HT.out (x:=(n-1-h)) (y:=h) oMx oMx
   have hx0:(n-1-h)<T.length:=by omega
   have hy0:h<T.length:=by omega
   obtain ⟨lb,hlb⟩:=eXx (ltL (rk T ((n-1-h))) (rk T (h)));rw [hlb] at hneg;have HLB:=oH hlb;clear hlb;have HCMP:=oH hcmp;have KB:=oH hkb;have HWz:=oH (Below.refl wr.heap.size wr).drew;have HKW:=oH (show ∀ W,Below wr.heap.size wr W->zCo zOe B W (.slice (some ⟨g,0,none⟩) T.length c) T/\Below B w W from fun W hW=>⟨HOWN.below hW,HBEL.trans (hW.mono (Nat.le_trans hB HBEL.size))⟩)
   have k2:IntKind.i64.wrap (((n-1:Nat):Int)-(h:Int))=((n-1-h:Nat):Int):=by rw [IntWalk.i64_in _ oMx];omega
   clear hkb hcmp;go_wp2_with fail;refine wp_region_held_drew (S:=(fun w'=>w'.cell? ⟨g,(n-1-h)*2,none⟩=some (.slice A1 l1 c1)/\w'.cell? ⟨g,(n-1-h)*2+1,none⟩=some (.int .i64 z1)/\w'.cell? ⟨g,h*2,none⟩=some (.slice A2 l2 c2)/\w'.cell? ⟨g,h*2+1,none⟩=some (.int .i64 z2))) (by kernel_rfl) (by exact KB.out _ HWz.out) (fun hHeld=>?_);refine tkH 0 ?_;refine tkH 1 ?_;refine tkH 2 ?_;refine tkH 3 ?_;refine tkH 4 ?_;refine tkH 5 ?_;refine tkH 6 ?_;refine tkH 7 ?_;refine tkH 8 ?_;refine tkH 9 ?_;refine tkH 10 ?_
   try simp only [Act.put,tkA,tkB,tkC]
   refine tkS 11 fun K hK=>?_
   go_simp
   (go_at_call 83;(with_reducible refine (HCMP.out _ HWz.out).mono ?_);rintro e wa ⟨rfl,hb⟩;have hw:Below wr.heap.size wr wa:=HWz.out.trans (hb.mono HWz.out.size);have HWa:=oH hw;clear hb hw)
   go_wp2_with fail;refine hK.out _ _ ?_ (fun hHeld=>?_)
   ·first|with_reducible exact KB.out _ HWa.out
   clear hK K
   try simp only [Act.put,tkA,tkB,tkC]
   refine tkH 12 ?_;refine tkH 13 ?_
   try simp only [Act.put,tkA,tkB,tkC]
   refine wpAnyH_done (by kernel_rfl) ?_ _
   try rw [hneg]
   have HK2:=oH (HKW.out wa HWa.out);clear hneg KB HCMP
   cases lb
   ·have E:=oH (show h+1=s0\/leK (rk T (h+1-1)) (rk T (n-(h+1))) from .inr (by rw [Nat.add_sub_cancel,Nat.sub_add_eq,Nat.sub_right_comm];exact HLB.out));go_wp2_with fail;go_roundw
    ·exact ⟨h+1,j,by go_num,rfl,oMx,oMx,hjb,E.out,HHI.out,HK2.1,HK2.2⟩
    simp [intOf];omega
   have E:=oH (show h=r0\/ltL (rk T (n-1-h)) (rk T h)=true from .inr HLB.out);go_wp2_with fail;go_roundw
   ·exact ⟨i,h,rfl,rfl,hmi,hih,oMx,HLO.out,E.out,HK2.1,HK2.2⟩
   simp [intOf];omega
  obtain rfl:i=j:=by omega
  obtain ⟨e,he1,he2⟩:∃ e,e<=n-i/\n-i<=e:=⟨n-i,lRx,lRx⟩
  have k1:IntKind.i64.wrap ((n:Int)-(i:Int))=(e:Int):=by rw [IntWalk.i64_in _ oMx];omega
  have HSY:=oH (show SymS T a m b i e from SymS.of oMx oMx oMx oMx HS1.out HS2.out (fun q1 q2=>by
   rcases HLO.out with h3|h3
   ·omega
   ·rw [show e=n-i by omega];exact h3) (fun q1 q2=>by
   rcases HHI.out with h3|h3
   ·omega
   rw [show e-1=n-1-i by omega];exact .of_lt h3))
  go_upto_region 39 with (fail);clear k1
  go_cut [185] from 178 to 185 (fun v wc=>v = .bool (decide (i<m/\m<e))/\wr=wc)
  case first =>
   by_cases hx:i<m
   ·by_cases hy:m<e
    ·go_wp2_with fail
     go_meet
     exact ⟨by simp [hx,hy],rfl⟩
    go_wp2_with fail
    go_meet
    exact ⟨by simp [hx,hy],rfl⟩
   go_wp2_with fail
   go_meet
   exact ⟨by simp [hx],rfl⟩
  case rest =>
   obtain ⟨rfl,rfl⟩:=hcut
   go_upto_if 185 with (fail)
   go_cut [] from 185 to 191 (fun wc=>∃ T1,zCo zOe B wc (.slice A T.length c) T1/\Win T T1 a b/\zBi T1 a i mid e b/\Below B w wc)
   case first =>
    by_cases hro:i<m/\m<e
    ·have HC:=oH (zFs (f := .func (.func 83) #[] #[]) HOWN.out hl hro.1 hro.2 oMx);rw [decide_eq_true hro];go_wp2_with fail;refine HC.mono ?_;rintro x w2 ⟨rfl,T2,ho2,hx2,hb2⟩;have HO2:=oH ho2;have HB2:=oH (HBEL.trans hb2);have HW2:=oH ((rot_win oMx oMx hx2.1 hx2.2).mono (a':=a) (b':=b) oMx oMx);have HH2:=oH (HSY.rotated (mid:=mid) oMx hx2.2);clear ho2 hx2 hb2;go_wp2_with fail
     go_meet
     exact ⟨T2,HO2.out,HW2.out,HH2.out,HB2.out⟩
    have HH2:=oH (HSY.rotated (T':=T) (mid:=mid) oMx (rot_none oMx oMx oMx));rw [decide_eq_false hro];go_wp2_with fail
    go_meet
    exact ⟨T,HOWN.out,.refl _ _ _,HH2.out,HBEL.out⟩
   case rest =>
    obtain ⟨T1,ho1,hw1,hh1,hb1⟩:=hcut;obtain ⟨wr,rfl⟩:=nWx wc;have hlen:=hw1.len;have HO1:=oH ho1;have HW1:=oH hw1;have HH1:=oH hh1;have HB1:=oH hb1;have HT1:=oH (show ∀ r∈T1,r.1.length<=1000 from fun r hr=>HT.out r (hw1.perm.mem_iff.1 hr));clear ho1 hw1 hh1 hb1 HSY HOWN HBEL HLO HHI;go_upto_region 41 with (fail)
    go_cut [199] from 192 to 199 (fun v wc=>v = .bool (decide (a<i/\i<mid))/\wr=wc)
    case first =>
     by_cases hx:a<i
     ·by_cases hy:i<mid
      ·go_wp2_with fail
       go_meet
       exact ⟨by simp [hx,hy],rfl⟩
      go_wp2_with fail
      go_meet
      exact ⟨by simp [hx,hy],rfl⟩
     go_wp2_with fail
     go_meet
     exact ⟨by simp [hx],rfl⟩
    case rest =>
     obtain ⟨rfl,rfl⟩:=hcut
     go_upto_if 199 with (fail)
     go_cut [] from 199 to 205 (fun wc=>∃ T2,zCo zOe B wc (.slice A T.length c) T2/\Win T1 T2 a mid/\zGb T2 a mid/\Below B w wc)
     case first =>
      by_cases hro:a<i/\i<mid
      ·have HC:=oH (HIH.out a i mid T1 wr oMx (by rw [hlen];exact HO1.out) HT1.out oMx hro.1 hro.2 oMx (Nat.le_trans hB HB1.size) HH1.a1 HH1.a2);rw [hlen] at HC;rw [decide_eq_true hro];go_wp2_with fail;refine HC.mono ?_;rintro x w2 ⟨rfl,T2,ho2,hw2,hs2,hb2⟩;rw [hlen] at ho2;have HO2:=oH ho2;have HB2:=oH (HB1.trans hb2);have HW2:=oH hw2;have HS3:=oH hs2;clear ho2 hw2 hs2 hb2;go_wp2_with fail
       go_meet
       exact ⟨T2,HO2.out,HW2.out,HS3.out,HB2.out⟩
      have HS3:=oH (show zGb T1 a mid from by
       by_cases q1:a<i
       ·obtain rfl:mid=i:=by omega
        exact HH1.a1
       obtain rfl:a=i:=by omega
       exact HH1.a2)
      rw [decide_eq_false hro];go_wp2_with fail
      go_meet
      exact ⟨T1,HO1.out,.refl _ _ _,HS3.out,HB1.out⟩
     case rest =>
      obtain ⟨T2,ho2,hw2,hs2,hb2⟩:=hcut;obtain ⟨wr,rfl⟩:=nWx wc;have hlen2:=hw2.len;have HO2:=oH ho2;have HW2:=oH hw2;have HS3:=oH hs2;have HB2:=oH hb2;have HT2:=oH (show ∀ r∈T2,r.1.length<=1000 from fun r hr=>HT1.out r (hw2.perm.mem_iff.1 hr));have HP1:=oH (hw2.srtO HH1.b1 (.inr lRx));have HP2:=oH (hw2.srtO HH1.b2 (.inr oMx))
      have hlen3:T2.length=T.length:=by omega
      clear ho2 hw2 hs2 hb2;go_upto_region 43 with (fail)
      go_cut [213] from 206 to 213 (fun v wc=>v = .bool (decide (mid<e/\e<b))/\wr=wc)
      case first =>
       by_cases hx:mid<e
       ·by_cases hy:e<b
        ·go_wp2_with fail
         go_meet
         exact ⟨by simp [hx,hy],rfl⟩
        go_wp2_with fail
        go_meet
        exact ⟨by simp [hx,hy],rfl⟩
       go_wp2_with fail
       go_meet
       exact ⟨by simp [hx],rfl⟩
      case rest =>
       obtain ⟨rfl,rfl⟩:=hcut
       by_cases hro:mid<e/\e<b
       ·have HC:=oH (HIH.out mid e b T2 wr oMx (by rw [hlen3];exact HO2.out) HT2.out oMx hro.1 hro.2 oMx (Nat.le_trans hB HB2.size) HP1.out HP2.out);rw [hlen3] at HC;rw [decide_eq_true hro];go_wp2_with fail;refine HC.mono ?_;rintro x w2 ⟨rfl,T3,ho3,hw3,hs3,hb3⟩;rw [hlen3] at ho3;have HO3:=oH ho3;have HB3:=oH (HB2.trans hb3);have HW3:=oH ((HW1.trans (HW2.mono lRx oMx)).trans (hw3.mono oMx lRx));have HS4:=oH (HH1.done HW2.out HS3.out hw3 hs3);clear ho3 hw3 hs3 hb3;go_wp2_with fail
        go_end0
        exact ⟨rfl,T3,HO3.out,HW3.out,HS4.out,HB3.out⟩
       have HS4:=oH (HH1.done HW2.out HS3.out (.refl _ _ _) (show zGb T2 mid b from by
        by_cases q1:mid<e
        ·obtain rfl:e=b:=by omega
         exact HP1.out
        obtain rfl:mid=e:=by omega
        exact HP2.out))
       rw [decide_eq_false hro];go_wp2_with fail
       go_end0
       exact ⟨rfl,T2,HO2.out,HW1.trans (HW2.mono lRx oMx),HS4.out,HB2.out⟩
theorem zGe:∀ (k:Nat) {B a m b c:Nat} {A:oAx} {T:List zGg} {w:World},b-a<=k->zCo zOe B w (.slice A T.length c) T->(∀ r∈T,r.1.length<=1000)->T.length<=1000->a<m->m<b->b<=T.length->B<=w.heap.size->zGb T a m->zGb T m b ->
  Calls Tryz.prog 111 #[.slice A T.length c,.int .i64 (a:Int),.int .i64 (m:Int),.int .i64 (b:Int),.func (.func 83) #[] #[]] w (RetS B a b c A T w)
 | 0,B,a,m,b,c,A,T,w,hk,ho,hT,hl,ham,hmb,hb,hB,h1,h2=>absurd hk oMx
 | k+1,B,a,m,b,c,A,T,w,hk,ho,hT,hl,ham,hmb,hb,hB,h1,h2=>by
  by_cases c1:m=a+1
  ·exact Sym_left ho hT hl ham hmb hb hB h1 h2 c1
  by_cases c2:b=m+1
  ·exact zGf ho hT hl ham hmb hb hB h1 h2 oMx c2
  exact Sym_gen ho hT hl ham hmb hb hB h1 h2 oMx oMx fun a' m' b' T' w' hlt ho' hT' hl' ham' hmb' hb' hB' h1' h2'=>zGe k oMx ho' hT' hl' ham' hmb' hb' hB' h1' h2'
end Go.Proofs.YtafflnognagadaaGreatDoor
