import Derived.Test.YtfjjcoggoomlbaaGreatDoorZMG
import Derived.Test.YtfjjcoggoomlbaaGreatDoorShelfB
set_option maxHeartbeats 16000000
set_option maxRecDepth 100000
set_option linter.unusedVariables false
set_option linter.unusedSimpArgs false
set_option linter.unusedSectionVars false
namespace Go.Proofs.YtfjjcoggoomlbaaGreatDoor
open Go.RowKit
def nd (z:Int):Nat:=Lib.nDigits z.natAbs
def zSg (f:Nat→Nat) (a:Nat):Nat→Nat
 | 0=>a
 | k+1=>max (zSg f a k) (f k)
def zSj (f:Nat→Nat→Nat) (n a:Nat):Nat→Nat
 | 0=>a
 | i+1=>zSg (f i) (zSj f n a i) n
def digT (D:Int) (P:Nat→Nat→Int) (m n:Nat):Nat:=zSj (fun i k=>nd (P i k)) n (nd D) m
theorem zSi {f:Nat→Nat} {a b:Nat} (ha:a≤b):∀ {n},(∀ k,k<n→f k≤b)→zSg f a n≤b
 | 0,_=>ha
 | n+1,h=>Nat.max_le.2 ⟨zSi ha fun k hk=>h k oMx,h n oMx⟩
theorem zSl {f:Nat→Nat→Nat} {n a b:Nat} (ha:a≤b):∀ {m},(∀ i k,i<m→k<n→f i k≤b)→zSj f n a m≤b
 | 0,_=>ha
 | m+1,h=>zSi (zSl ha fun i k hi hk=>h i k oMx hk) fun k hk=>h m k oMx hk
theorem zMe (dv:zCy) (A:Option Addr) (c n:Nat) (rows:List zGd) (P:Nat→Nat→Int) (D:Int) (w:World) (h:TabR w A rows n P) (hd:zCe w dv.val D) (hLD:LL D≤100000) (hL:∀ i k,i<rows.length→LL (P i k)≤100000) (hm1:1≤rows.length) (hm:rows.length≤1000) (hn1:1≤n) (hn:n≤1000) (henv:Env w) :
  Calls Tryz.prog 153 #[.agg #[.bool dv.nb,.slice dv.ad dv.l dv.c,.slice A rows.length c]] w fun e w'=>e = .returned (.int .i64 (digT D P rows.length n:Nat))∧Below w.heap.size w w':=by
 obtain ⟨b,off,rfl, -⟩:=h.o (by intro e;rw [List.map_eq_nil_iff] at e;subst e;simp at hm1)
 have HT:=oH h
 have HL:=oH hL
 have HE:=oH henv
 have HDT:=oH (show digT D P rows.length n=zSj (fun i k=>nd (P i k)) n (nd D) rows.length from rfl)
 obtain ⟨f,hf⟩:∃ f,(fun i k=>nd (P i k))=f:=⟨_,rfl⟩
 rw [hf] at HDT
 have HF:=oH (fun i k=>(show nd (P i k)=f i k by rw [←hf]))
 obtain ⟨dT,hdT⟩:∃ dT,digT D P rows.length n=dT:=⟨_,rfl⟩
 rw [hdT] at HDT ⊢
 clear hdT hf
 have HB1:=oH ((Below.refl w.heap.size w).alloc lRx (.cells #[.bool dv.nb,.slice dv.ad dv.l dv.c,.slice (some ⟨b,off,none⟩) rows.length c] 86))
 have HD:=oH (zAu (.agg #[.bool dv.nb,.slice dv.ad dv.l dv.c]) D _ (show zCe _ _ D from hd.below HB1.out) (by unfold LL at hLD;omega) (henv.below HB1.out).tab)
 have hbk:=Blk.new w 86 [.bool dv.nb,.slice dv.ad dv.l dv.c,.slice (some ⟨b,off,none⟩) rows.length c]
 clear h hL hd henv
 go_enter Tryz.func153,Tryz.ntmps153
 go_wp2_with fail
 refine HD.mono ?_
 rintro e w2 ⟨rfl,hb2⟩
 have k2:=(hbk.below hb2).at_ (i:=2) rfl
 have HB2:=oH (HB1.trans (hb2.mono HB1.size))
 have E0:=oH (show (Lib.nDigits D.natAbs:Nat)=zSj f n (nd D) 0 from rfl)
 generalize Lib.nDigits D.natAbs=a0 at *
 clear hbk hb2
 go_wp2_with fail
 clear k2
 go_loopw [3,14] (fun v iv wr=>∃ i x:Nat,iv = .int .i64 (i:Int)∧i≤rows.length∧v = .int .i64 (x:Int)∧x=zSj f n (nd D) i∧Below w.heap.size w wr) (fun _ iv _=>rows.length-(intOf iv).toNat)
 case atStart=>exact ⟨0,a0,rfl,oLx,rfl,E0.out,HB2.out⟩
 case round =>
  obtain ⟨i,x,rfl,hi,rfl,hx,hb⟩:=hrel
  obtain ⟨wi,rfl⟩:∃ wi:World,wi=wr:=⟨_,rfl⟩
  have HX:=oH hx
  have HB:=oH hb
  clear hx hb
  by_cases hlt:i<rows.length
  ·have ht:=HT.below HB.out
   have hci:=ht.o.at_ (i:=i) (List.getElem?_eq_getElem (by simpa using hlt))
   simp only [List.getElem_map,zGd.val] at hci
   have HRR:=oH (HT.r _ (List.getElem_mem hlt))
   have HRL:=oH (HT.l _ (List.getElem_mem hlt))
   have HRN:=oH (HT.num i hlt)
   have HLI:=oH (fun k=>HL.out i k hlt)
   generalize rows[i]=r at *
   obtain ⟨g,cg,us⟩:=r
   have hx1:(0:Int)≤(i:Int):=by omega
   have hx2:(i:Int)<(rows.length:Int):=by omega
   clear ht
   simp only at hci
   go_wp2_with fail
   clear hci
   go_loopw [3,20] (fun v jv wr=>∃ k y:Nat,jv = .int .i64 (k:Int)∧k≤n∧v = .int .i64 (y:Int)∧y=zSg (f i) (zSj f n (nd D) i) k∧Below w.heap.size w wr) (fun _ jv _=>n-(intOf jv).toNat)
   case atStart=>exact ⟨0,x,rfl,oLx,rfl,HX.out,HB.out⟩
   case round =>
    obtain ⟨k,y,rfl,hk,rfl,hy,hb⟩:=hrel
    obtain ⟨wq,rfl⟩:∃ wq:World,wq=wr:=⟨_,rfl⟩
    have HY:=oH hy
    have HBq:=oH hb
    clear hy
    by_cases hlt2:k<n
    ·have hku:k<us.length:=by have h9:us.length=n:=HRL.out;omega
     have hrr:=HRR.below HBq.out
     have e0:=hrr.at_ (zTp hku).1
     have e1:=hrr.at_ (zTp hku).2
     rw [Nat.zero_add] at e0 e1
     have hnu:zCe w us[k].val (P i k):=HRN.out k hku
     have HPK:=oH (HF.out i k)
     have hlk:=HLI.out k
     generalize us[k]=u at *
     generalize P i k=z at *
     have HBa:=oH (HBq.alloc HBq.size (.cells #[.bool u.nb,.slice u.ad u.l u.c] 83))
     have HDK:=oH (zAu (.agg #[.bool u.nb,.slice u.ad u.l u.c]) z _ (show zCe _ _ z from hnu.below HBa.out) (by unfold LL at hlk;omega) (HE.below HBa.out).tab)
     have hx3:(0:Int)≤(k:Int):=by omega
     have hx4:(k:Int)<(n:Int):=by omega
     clear hrr hnu hku hb
     go_wp2_with fail
     refine HDK.mono ?_
     rintro e w5 ⟨rfl,hb5⟩
     have HB5:=oH (HBa.trans (hb5.mono HBa.size))
     have HM:=oH (show max y (Lib.nDigits z.natAbs)=zSg (f i) (zSj f n (nd D) i) (k+1) by
      show _=max (zSg (f i) (zSj f n (nd D) i) k) (f i k)
      rw [←HY.out,←HPK.out]
      rfl)
     generalize Lib.nDigits z.natAbs=dz at *
     clear hb5
     go_wp2_with fail
     go_roundw
     case rel=>exact ⟨k+1,max y dz,by go_num,oMx,by rw [show ((max y dz:Nat):Int)=max (y:Int) (dz:Int) by omega],HM.out,HB5.out⟩
     case measure=>simp [intOf];omega
    ·obtain rfl:n=k:=by omega
     go_wp2_with fail
     go_roundw
     case rel=>exact ⟨i+1,y,by go_num,oMx,rfl,HY.out,HBq.out⟩
     case measure=>simp [intOf];omega
  ·obtain rfl:i=rows.length:=by omega
   have E:=oH (HX.trans HDT.symm)
   go_wp2_with fail
   go_ret
   exact ⟨by first|rfl|(rw [E.out];rfl),HB.out⟩
end Go.Proofs.YtfjjcoggoomlbaaGreatDoor
namespace Go.Proofs.YtfjjcoggoomlbaaGreatDoor
open Go.RowKit
theorem zSn:∀ (k n:Nat),n<10^(k+1)→Lib.nDigits n≤k+1
 | 0,n,h=>by rw [Lib.nDigits_small (by simpa using h)];exact lRx
 | k+1,n,h=>by
  by_cases h1:n<10
  ·rw [Lib.nDigits_small h1];omega
  ·rw [Lib.nDigits_big h1]
   have:=zSn k (n/10) (by rw [Nat.div_lt_iff_lt_mul dCx];rw [Nat.pow_succ] at h;exact h)
   omega
theorem zQy:∀ (k n:Nat),n<10^k→n<10^Lib.nDigits n
 | 0,n,h=>by
  have:n=0:=by simpa using h
  subst this
  exact Nat.pow_pos dCx
 | k+1,n,h=>by
  by_cases h1:n<10
  ·rw [Lib.nDigits_small h1];simpa using h1
  ·rw [Lib.nDigits_big h1,Nat.pow_succ]
   have:=zQy k (n/10) (by rw [Nat.div_lt_iff_lt_mul dCx];rw [Nat.pow_succ] at h;exact h)
   rw [Nat.div_lt_iff_lt_mul dCx] at this
   exact this
theorem lt_pow_self (n:Nat):n<10^n:=Nat.lt_pow_self dCx
theorem nd_LL (z:Int):nd z≤9*LL z+1:=by
 unfold nd
 refine zSn (9*LL z) z.natAbs ?_
 have h:=zQn z.natAbs
 have e:(1000000000:Nat)^(limbs z.natAbs).length=10^(9*LL z):=by rw [Nat.pow_mul];rfl
 rw [e] at h
 exact Nat.lt_of_lt_of_le h (Nat.pow_le_pow_right dCx oMx)
theorem LL_nd {z:Int} {k:Nat} (h:nd z≤9*k):LL z≤k:=by
 unfold LL
 refine zQh ?_
 have h1:=zQy z.natAbs z.natAbs (lt_pow_self _)
 have h2:(1000000000:Nat)^k=10^(9*k):=by rw [Nat.pow_mul]
 rw [h2]
 exact Nat.lt_of_lt_of_le h1 (Nat.pow_le_pow_right dCx h)
theorem zMb {z:Int} {k:Nat} (h:Dig (k+1) z):nd z≤k+1:=zSn k z.natAbs h
theorem zRm {rs:List zGe} {n:Nat} (hf:zBn rs n) (i k:Nat):LL (zRl rs i k)≤7145:=by
 have h1:=zRh hf
 have h2:=(zRp rs i k).1
 have h3:=zCi (zRn rs i k).num (zRg rs/((zRn rs i k).den:Int))
 have h4:=zCh (zRg rs) ((zRn rs i k).den:Int)
 have h5:LL (zRn rs i k).num≤45:=h2
 show LL ((zRn rs i k).num*(zRg rs/((zRn rs i k).den:Int)))≤7145
 omega
noncomputable def zNz (rs:List zGe) (n:Nat):Nat:=max rs.length n*digT (zRg rs) (zRl rs) rs.length n
theorem digT_LL {D:Int} {P:Nat→Nat→Int} {m n k:Nat} (hD:LL D≤k) (hP:∀ i j,i<m→j<n→LL (P i j)≤k):digT D P m n≤9*k+1:=by
 refine zSl ?_ fun i j hi hj=>?_
 ·have:=nd_LL D;omega
 ·have:=nd_LL (P i j)
  have:=hP i j hi hj
  show nd (P i j)≤_
  omega
theorem zBt (A:Option Addr) (c n:Nat) (rs:List zGe) (w:World) (h:zCt w A rs) (hf:zBn rs n) (hm1:1≤rs.length) (hn1:1≤n) (henv:Env w) :
  Calls Tryz.prog 87 #[.slice A rs.length c] w fun e w'=>e = .returned (.bool (decide (600<zNz rs n)))∧Below w.heap.size w w':=by
 obtain ⟨b,off,rfl, -⟩:=h.o (by intro e;have:=zYe rs;rw [e] at this;simp at this;omega)
 have hc0:=h.o.at_ (zYd (i:=0) oMx)
 rw [Nat.add_zero,hf.row _ (List.getElem_mem oMx)] at hc0
 have HO:=oH (zCz _ c n rs w h hf hm1 hn1 henv)
 have HDT:=oH (digT_LL (k:=7145) (Nat.le_trans (zRh hf) dCx) (fun i j (_:i<rs.length) (_:j<n)=>zRm hf i j))
 have hmx:=hf.m
 have hnx:=hf.n12
 have HH:=oH (show zNz rs n=max rs.length n*digT (zRg rs) (zRl rs) rs.length n from rfl)
 have HE:=oH henv
 have HL1:=oH (zRh hf)
 have HL2:=oH (fun i k (_:i<rs.length)=>zRm hf i k)
 generalize zNz rs n=hh at *
 generalize zRg rs=D at *
 generalize zRl rs=P at *
 generalize rs[0].ad=a0 at *
 generalize rs[0].cp=c0 at *
 clear h hf henv
 have hd:decide ((rs.length:Int)>0)=true:=by simp;omega
 have hmax:max (rs.length:Int) (n:Int)=((max rs.length n:Nat):Int):=by omega
 go_enter Tryz.func87,Tryz.ntmps87
 go_wp2_with fail
 refine HO.mono ?_
 rintro e w2 ⟨R,cR,rows,dv,rfl,hl,ht, -, -,hd2,hb⟩
 have HB:=oH hb
 rw [←hl] at ht
 have HDG:=oH (zMe dv _ cR n rows P D w2 ht.read hd2 (Nat.le_trans HL1.out dCx) (fun i k hi=>Nat.le_trans (HL2.out i k oMx) dCx) oMx oMx hn1 oMx (HE.below hb))
 have HLN:=oH hl
 rw [hl] at HDG
 clear ht hd2 hb hl
 go_wp2_with fail
 refine HDG.mono ?_
 rintro e w3 ⟨rfl,hb3⟩
 have HB3:=oH (HB.trans (hb3.mono HB.size))
 have hdt:=HDT.out
 generalize digT D P rs.length n=dt at *
 clear hb3
 have hmul:max rs.length n*dt≤12*(9*7145+1):=Nat.mul_le_mul oMx hdt
 have hmul2:((max rs.length n:Nat):Int)*(dt:Int)=(hh:Int):=by rw [HH.out,Int.natCast_mul]
 have hh2:hh≤12*(9*7145+1):=by rw [HH.out];exact hmul
 have hw:wrap64 (((max rs.length n:Nat):Int)*(dt:Int))=(hh:Int):=by rw [hmul2];unfold wrap64;omega
 clear hmul hmul2
 go_wp2_with fail
 go_ret
 refine ⟨?_,HB3.out⟩
 congr 2
 simp
 omega
end Go.Proofs.YtfjjcoggoomlbaaGreatDoor
namespace Go.Proofs.YtfjjcoggoomlbaaGreatDoor
open Go.RowKit
theorem zSh {f:Nat→Nat} {a:Nat}:∀ {n},a≤zSg f a n∧∀ k,k<n→f k≤zSg f a n
 | 0=>⟨lRx,fun k hk=>by omega⟩
 | n+1=>by
  obtain ⟨h1,h2⟩:=zSh (f:=f) (a:=a) (n:=n)
  refine ⟨Nat.le_trans h1 (Nat.le_max_left _ _),fun k hk=>?_⟩
  rcases Nat.lt_or_ge k n with h|h
  ·exact Nat.le_trans (h2 k h) (Nat.le_max_left _ _)
  ·obtain rfl:k=n:=by omega
   exact Nat.le_max_right _ _
theorem zSk {f:Nat→Nat→Nat} {n a:Nat}:∀ {m},a≤zSj f n a m∧∀ i k,i<m→k<n→f i k≤zSj f n a m
 | 0=>⟨lRx,fun i k hi=>by omega⟩
 | m+1=>by
  obtain ⟨h1,h2⟩:=zSk (f:=f) (n:=n) (a:=a) (m:=m)
  obtain ⟨h3,h4⟩:=zSh (f:=f m) (a:=zSj f n a m) (n:=n)
  refine ⟨Nat.le_trans h1 h3,fun i k hi hk=>?_⟩
  rcases Nat.lt_or_ge i m with h|h
  ·exact Nat.le_trans (h2 i k h hk) h3
  ·obtain rfl:i=m:=by omega
   exact h4 k hk
theorem matQ_out {rs:List zGe} {n:Nat} (hf:zBn rs n) {i k:Nat} (hk:n≤k):zRn rs i k=0:=by
 unfold zRn
 rw [List.getD_eq_getElem?_getD]
 have:((zRk rs).getD i []).length≤n:=by
  rw [List.getD_eq_getElem?_getD]
  rcases h2:(zRk rs)[i]? with _|l
  ·simp
  ·obtain ⟨r,hr,rfl⟩:=List.mem_map.1 (List.mem_of_getElem? h2)
   have:=hf.row r hr
   simp
   omega
 rw [List.getElem?_eq_none oMx]
 rfl
theorem zPu {rs:List zGe} {n:Nat} (hf:zBn rs n) (hm1:1≤rs.length) (h:zNz rs n≤600):∀ i k,i<rs.length→LL (zRl rs i k)≤70:=fun i k hi=>by
 rcases Nat.lt_or_ge k n with hk|hk
 ·have h1:=(zSk (f:=fun i k=>nd (zRl rs i k)) (n:=n) (a:=nd (zRg rs)) (m:=rs.length)).2 i k hi hk
  have h2:digT (zRg rs) (zRl rs) rs.length n≤zNz rs n:=by
   unfold zNz
   have:1≤max rs.length n:=by omega
   exact Nat.le_mul_of_pos_left _ this
  have h3:nd (zRl rs i k)≤9*67:=Nat.le_trans h1 (Nat.le_trans h2 oMx)
  exact Nat.le_trans (LL_nd h3) dCx
 ·have:zRl rs i k=0:=by
   show (zRn rs i k).num*_=0
   rw [matQ_out hf hk]
   exact Int.zero_mul _
  rw [this]
  show (limbs 0).length≤70
  rw [zQu]
  decide
theorem zRq {rs:List zGe} {n:Nat} (hf:zBn rs n) {i k:Nat} (hi:i<rs.length) (hk:k<n):((zRl rs i k:Int):Rat)=zRg rs*zRn rs i k:=by
 have hr:rs[i].ss.length=n:=hf.row _ (List.getElem_mem hi)
 refine celN_eq (zLg (zRk rs) 1 (rs[i].ss.map xEr) _ (List.mem_map.2 ⟨_,List.getElem_mem hi,rfl⟩) ?_)
 rw [zRo hi oMx]
 exact List.mem_map.2 ⟨_,List.getElem_mem _,rfl⟩
theorem zCe.over {w:World} {v:Value} {z:Int} {p:Addr} {u:Value} (h:zCe w v z) (hc:w.cell? p=some u) (hu:∀ z,u ≠ .int .u64 z) (x:Value):zCe (w.setCell p x) v z:=by
 obtain ⟨s,e,A,c,e2,hl,hx⟩:=h
 refine ⟨s,e,A,c,e2,hl,fun hne=>?_⟩
 obtain ⟨b,off,rfl,hb,hcell⟩:=hx hne
 refine ⟨b,off,rfl,by simpa using hb,fun i hi=>?_⟩
 rw [World.cell?_setCell_other]
 ·exact hcell i hi
 ·intro e3
  have h1:=hcell i hi
  rw [←e3,hc] at h1
  injection h1 with h1
  exact hu _ h1
structure TwoB (w:World) (g h:Nat) (v u:zCy):Prop where
 a0:w.cell? ⟨g,0,none⟩=some (.bool v.nb)
 a1:w.cell? ⟨g,1,none⟩=some (.slice v.ad v.l v.c)
 b0:w.cell? ⟨h,0,none⟩=some (.bool u.nb)
 b1:w.cell? ⟨h,1,none⟩=some (.slice u.ad u.l u.c)
 fa0:w.frozen? ⟨g,0,none⟩=false
 fa1:w.frozen? ⟨g,1,none⟩=false
 fb0:w.frozen? ⟨h,0,none⟩=false
 fb1:w.frozen? ⟨h,1,none⟩=false
 ne:g≠h
end Go.Proofs.YtfjjcoggoomlbaaGreatDoor
namespace Go.Proofs.YtfjjcoggoomlbaaGreatDoor
theorem zMd:zAt 1 0:=⟨by unfold Dig;decide,by unfold Dig;decide⟩
def detDig (k:Nat):Nat→Nat
 | 0=>1
 | n+1=>1+(n+1)*(1+k+detDig k n+1)
theorem lcmI_dig {a b:Nat} {x y:Int} (h:Dig a x) (k:Dig b y):Dig (a+b) (zOz x y):=by
 have h1:Dig a (x/((x.gcd y:Nat):Int)):=Nat.lt_of_le_of_lt (Int.natAbs_ediv_le_natAbs x _) h
 exact h1.mul k rfl rfl
theorem zKv {k:Nat}:∀ {l:List Rat} {a:Nat} {d:Int},Dig a d→(∀ q∈l,zAt k q)→Dig (a+l.length*k) (zKt d l)
 | [],_,_,h,_=>by simpa [zKt] using h
 | q::l,a,d,h,hq=>by
  have:=zKv (l:=l) (lcmI_dig h (hq q sMx).2) fun x hx=>hq x (by simp [hx])
  rw [show a+(q::l).length*k=a+k+l.length*k by rw [List.length_cons,Nat.succ_mul];omega]
  exact this
theorem zLd {k n:Nat}:∀ {m:List (List Rat)} {a:Nat} {d:Int},Dig a d→(∀ l∈m,l.length≤n∧∀ q∈l,zAt k q)→Dig (a+m.length*(n*k)) (zLb d m)
 | [],_,_,h,_=>by simpa [zLb] using h
 | l::m,a,d,h,hl=>by
  obtain ⟨h1,h2⟩:=hl l sMx
  have h3:=(zKv h h2).mono (b:=a+n*k) (Nat.add_le_add_left (Nat.mul_le_mul_right k h1) a)
  have:=zLd (m:=m) h3 fun x hx=>hl x (by simp [hx])
  rw [show a+(l::m).length*(n*k)=a+n*k+m.length*(n*k) by rw [List.length_cons,Nat.succ_mul];omega]
  exact this
theorem zIs {a k:Nat} {d:Int} {q:Rat} (h:Dig a d) (hq:zAt k q):Dig (k+a) (celN d q):=by
 have h1:Dig a (d/(q.den:Int)):=Nat.lt_of_le_of_lt (Int.natAbs_ediv_le_natAbs d _) h
 exact hq.1.mul h1 rfl rfl
end Go.Proofs.YtfjjcoggoomlbaaGreatDoor
namespace Go.Proofs.YtfjjcoggoomlbaaGreatDoor
open Go.RowKit
theorem zTj {u:zCy}:(∀ z,(Value.bool u.nb) ≠ .int .u64 z)∧∀ z,(Value.slice u.ad u.l u.c) ≠ .int .u64 z:=⟨fun z e=>(by cases e),fun z e=>(by cases e)⟩
noncomputable def detS (rs:List zGe):ByteArray:=if 600<zNz rs rs.length then ⟨#[]⟩ else outR (det rs.length (zRn rs))
noncomputable def detE (rs:List zGe):Int:=if 600<zNz rs rs.length then 3 else zUk (det rs.length (zRn rs))
theorem fits0:zBp 0:=zMd.fits dCx dCx
end Go.Proofs.YtfjjcoggoomlbaaGreatDoor
namespace Go.Proofs.YtfjjcoggoomlbaaGreatDoor
open Go.RowKit
theorem xDa (a b:List ByteArray):sv (a++b)=sv a++sv b:=by simp [sv]
def zFz (w:World) (qs:List Rat) (e:Ending) (w':World):Prop :=
 (∃ A c,(∀ q∈qs,zBp q)∧e = .returned (.tuple #[.slice A qs.length c,.int .i64 0])∧zGo w' A (qs.map zYj)∧Below w.heap.size w w') ∨
 ((∃ q∈qs,¬zBp q)∧e = .returned (.tuple #[.slice none 0 0,.int .i64 3])∧Below w.heap.size w w')
end Go.Proofs.YtfjjcoggoomlbaaGreatDoor
namespace Go.Proofs.YtfjjcoggoomlbaaGreatDoor
open Go.RowKit
section
variable {P:Program}
end
def zeroF:FrV:=⟨false,none,0,0,false,none,0,0⟩
def repF (u:FrV) (k n:Nat):List Value:=frc (List.replicate k u++List.replicate (n-k) zeroF)
end Go.Proofs.YtfjjcoggoomlbaaGreatDoor
namespace Go.Proofs.YtfjjcoggoomlbaaGreatDoor
open Go.RowKit
theorem field_T (w:World) (v0:Bool) (A B:Option Addr) (l c m d:Nat):(Instr.field 86 (.agg #[.bool v0,.slice A l c,.slice B m d]) 1).run Tryz.prog w = .ok (.slice B m d) w:=by kernel_rfl
attribute [go_sem] field_T
structure RowQ (w:World) (g:Nat) (vs:List FrV) (n:Nat) (q:Nat→Rat):Prop where
 blk:Blk w g 89 (frc vs)
 len:vs.length=n
 num:∀ j,(h:j<vs.length)→zCb w vs[j].val (q j)
section
variable {w w':World} {g n:Nat} {vs:List FrV} {q:Nat→Rat}
end
theorem Sz.of1:Sz 5000000 1:=⟨Nat.le_trans zCj dCx,Nat.le_trans zCj dCx⟩
def kerQ (s:zAz) (a j:Nat):Rat:=if j=a then 1 else if j<a then Rat.divInt (-(s.P j a)) s.v else 0
def zBo (ps:List Nat) (a:Nat):Prop:=a≤ps.length∧(∀ i,i<a→pn ps i=i)∧¬(a<ps.length∧pn ps a=a)
def KerPost (heavy:Bool) (s:zAz) (n:Nat) (w:World) (e:Ending) (w':World):Prop :=
 match heavy with
 | true=>e = .returned (.tuple #[.slice none 0 0,.int .i64 3])∧Below w.heap.size w w'
 | false=>(s.ps.length=n∧e = .returned (.tuple #[.slice none 0 0,.int .i64 12])∧Below w.heap.size w w')∨(s.ps.length<n∧∃ a,zBo s.ps a∧zFz w ((List.range n).map (kerQ s a)) e w')
end Go.Proofs.YtfjjcoggoomlbaaGreatDoor
namespace Go.Proofs.YtfjjcoggoomlbaaGreatDoor
open Go.RowKit
theorem field_T2 (w:World) (v0:Bool) (A B:Option Addr) (l c m d:Nat):(Instr.field 86 (.agg #[.bool v0,.slice A l c,.slice B m d]) 1).run Tryz.prog w = .ok (.slice B m d) w:=by kernel_rfl
theorem field_R1 (w:World) (A B C:Option Addr) (l c m d n f:Nat) (x y:Bool):(Instr.field 152 (.agg #[.slice A l c,.slice B m d,.bool x,.slice C n f,.bool y]) 1).run Tryz.prog w = .ok (.slice B m d) w:=by kernel_rfl
attribute [local go_sem] field_T2 field_R1
def RankPost (heavy:Bool) (s:zAz) (w:World) (e:Ending) (w':World):Prop :=
 match heavy with
 | true=>e = .returned (.tuple #[.int .i64 0,.int .i64 3])∧Below w.heap.size w w'
 | false=>e = .returned (.tuple #[.int .i64 (s.ps.length:Int),.int .i64 0])∧Below w.heap.size w w'
end Go.Proofs.YtfjjcoggoomlbaaGreatDoor
