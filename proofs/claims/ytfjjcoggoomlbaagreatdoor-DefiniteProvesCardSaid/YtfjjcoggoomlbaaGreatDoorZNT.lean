import Derived.Test.YtfjjcoggoomlbaaGreatDoorZNS
import Derived.Test.YtfjjcoggoomlbaaGreatDoorZNJ
set_option maxHeartbeats 16000000
set_option maxRecDepth 100000
set_option linter.unusedVariables false
set_option linter.unusedSimpArgs false
set_option linter.unusedSectionVars false
namespace Go.Proofs.YtfjjcoggoomlbaaGreatDoor
open Go.RowKit
def upV (z:Nat->Rat) (i:Nat) (q:Rat):Nat->Rat:=fun j=>if j=i then q else z j
theorem xFi (z:Nat->Rat) (i:Nat) (q:Rat):upV z i q i=q:=if_pos rfl
theorem xFj {z:Nat->Rat} {i j:Nat} {q:Rat} (h:j≠i):upV z i q j=z j:=if_neg h
section
variable {n i k:Nat} {L:mRx} {b z z0 z1 D:Nat->Rat}
def Fwd (n:Nat) (L:mRx) (b:Nat->Rat) (i:Nat) (z:Nat->Rat):Prop:=(∀ j,j<i->z j+xDg j (fun t=>L j t*z t)=b j)/\∀ j,i<=j->j<n->z j=b j
def zBx (n:Nat) (L:mRx) (b:Nat->Rat) (i k:Nat) (z:Nat->Rat):Prop:=(∀ j,j<i->z j+xDg j (fun t=>L j t*z t)=b j)/\(∀ j,i<j->j<n->z j=b j)/\z i+xDg k (fun t=>L i t*z t)=b i
theorem Fwd.zero (n:Nat) (L:mRx) (b:Nat->Rat):Fwd n L b 0 b:=⟨fun j h=>absurd h oMx,fun _ _ _=>rfl⟩
theorem Fwd.start (h:Fwd n L b i z) (hi:i<n):zBx n L b i 0 z:=⟨h.1,fun j h1 h2=>h.2 j oMx h2,by rw [h.2 i (Nat.le_refl i) hi];show b i+0=b i;grind⟩
theorem zBx.step (h:zBx n L b i k z) (hk:k<i):zBx n L b i (k+1) (upV z i (z i-L i k*z k)):=by
 obtain ⟨h1,h2,h3⟩:=h;refine ⟨fun j hj=>?_,fun j hj hn=>?_,?_⟩
 ·rw [xFj oMx,xDi (g:=fun t=>L j t*z t) fun t ht=>by rw [xFj oMx]];exact h1 j hj
 ·rw [xFj oMx];exact h2 j hj hn
 rw [xFi,xDi (g:=fun t=>L i t*z t) fun t ht=>by rw [xFj oMx]]
 show z i-L i k*z k+(xDg k (fun t=>L i t*z t)+L i k*z k)=b i
 rw [<-h3];grind
theorem zBx.done (h:zBx n L b i i z):Fwd n L b (i+1) z:=⟨fun j hj=>by
 by_cases e:j=i
 ·rw [e];exact h.2.2
 exact h.1 j oMx,fun j h1 h2=>h.2.1 j oMx h2⟩
def Dvd (n:Nat) (D z0:Nat->Rat) (i:Nat) (z:Nat->Rat):Prop:=(∀ j,j<i->z j=z0 j/D j)/\∀ j,i<=j->j<n->z j=z0 j
theorem Dvd.zero (n:Nat) (D z:Nat->Rat):Dvd n D z 0 z:=⟨fun j h=>absurd h oMx,fun _ _ _=>rfl⟩
theorem Dvd.step (h:Dvd n D z0 i z) (hi:i<n):Dvd n D z0 (i+1) (upV z i (z i/D i)):=⟨fun j hj=>by
 by_cases e:j=i
 ·rw [e,xFi,h.2 i (Nat.le_refl i) hi]
 rw [xFj e];exact h.1 j oMx,fun j h1 h2=>by rw [xFj oMx];exact h.2 j oMx h2⟩
def bsum (L:mRx) (z:Nat->Rat) (j k:Nat):Rat:=xDg k fun t=>if j<t then L t j*z t else 0
def Bwd (n:Nat) (L:mRx) (z1:Nat->Rat) (m:Nat) (z:Nat->Rat):Prop:=(∀ j,m<=j->j<n->z j+bsum L z j n=z1 j)/\∀ j,j<m->z j=z1 j
def zAh (n:Nat) (L:mRx) (z1:Nat->Rat) (i k:Nat) (z:Nat->Rat):Prop:=(∀ j,i<j->j<n->z j+bsum L z j n=z1 j)/\(∀ j,j<i->z j=z1 j)/\z i+bsum L z i k=z1 i
theorem Bwd.zero (n:Nat) (L:mRx) (z:Nat->Rat):Bwd n L z n z:=⟨fun j h1 h2=>absurd h1 oMx,fun _ _=>rfl⟩
theorem Bwd.start (h:Bwd n L z1 (i+1) z):zAh n L z1 i (i+1) z:=⟨fun j h1 h2=>h.1 j h1 h2,fun j hj=>h.2 j oMx,by
 rw [h.2 i oMx];unfold bsum;rw [xDu fun t ht=>if_neg oMx]
 grind⟩
theorem zJa {j:Nat} (q:Rat) (h:i<=j):bsum L (upV z i q) j k=bsum L z j k:=xDi fun t _=>by
 by_cases e:j<t
 ·rw [if_pos e,if_pos e,xFj oMx]
 rw [if_neg e,if_neg e]
theorem zAh.step (h:zAh n L z1 i k z) (hk:i<k):zAh n L z1 i (k+1) (upV z i (z i-L k i*z k)):=by
 obtain ⟨h1,h2,h3⟩:=h;refine ⟨fun j hj hn=>?_,fun j hj=>?_,?_⟩
 ·rw [xFj oMx,zJa _ oMx];exact h1 j hj hn
 ·rw [xFj oMx];exact h2 j hj
 rw [xFi,zJa _ (Nat.le_refl i)]
 show z i-L k i*z k+(bsum L z i k+if i<k then L k i*z k else 0)=z1 i
 rw [if_pos hk,<-h3];grind
theorem zAh.done (h:zAh n L z1 i n z):Bwd n L z1 i z:=⟨fun j h1 h2=>by
 by_cases e:j=i
 ·rw [e];exact h.2.2
 exact h.1 j oMx h2,fun j hj=>h.2.1 j hj⟩
def SolF (n:Nat) (L:mRx) (D b z:Nat->Rat):Prop:=∀ i,i<n->xDg n (fun t=>L i t*(D t*xDg n fun j=>L j t*z j))=b i
theorem sol_f (hl:∀ i k,i<n->k<n->i<=k->L i k=idn i k) (hD:∀ t,t<n->D t≠0) (h0:Fwd n L b n z0) (h1:Dvd n D z0 n z1) (h2:Bwd n L z1 0 z):SolF n L D b z:=fun i hi=>by
 have e1:∀ t,t<n->xDg n (fun j=>L j t*z j)=z1 t:=fun t ht=>by
  have e2:xDg n (fun j=>L j t*z j)=xDg n (fun j=>(if j=t then z t else 0)+if t<j then L j t*z j else 0):=xDi fun j hj=>by
   rcases Nat.lt_trichotomy j t with h|h|h
   ·rw [hl j t hj ht oMx,if_neg oMx,if_neg oMx];unfold idn
    rw [if_neg oMx];grind
   ·subst h;rw [hl j j hj hj (Nat.le_refl j),if_pos rfl,if_neg oMx];unfold idn
    rw [if_pos rfl];grind
   rw [if_neg oMx,if_pos h];grind
  rw [e2,xDh,xDn ht fun j _ hne=>if_neg hne,if_pos rfl];exact h2.1 t (Nat.zero_le t) ht
 have e3:∀ t,t<n->D t*z1 t=z0 t:=fun t ht=>by
  rw [h1.1 t ht];have:=hD t ht
  grind
 rw [xDi (g:=fun t=>L i t*z0 t) fun t ht=>by rw [e1 t ht,e3 t ht],xDj (m:=i+1) oMx fun t h3 h4=>by
  rw [hl i t hi h4 oMx];unfold idn
  rw [if_neg oMx];grind]
 show xDg i (fun t=>L i t*z0 t)+L i i*z0 i=b i
 rw [hl i i hi hi (Nat.le_refl i),<-h0.1 i hi];unfold idn
 rw [if_pos rfl];grind
theorem sol_m {M:mRx} (hs:SymM n M) (hd:∀ t,t<n->dD M t≠0) (h:SolF n (lK M n) (dD M) b z):∀ i,i<n->xDg n (fun j=>M i j*z j)=b i:=fun i hi=>by
 have hz:∀ j t,j<t->lK M n j t=0:=fun j t hjt=>by
  unfold lK idn;rw [if_neg oMx,if_neg oMx]
 have hlow:∀ i j,i<n->j<=i->xDg n (fun t=>lK M n i t*dD M t*lK M n j t)=M i j:=fun i j hi hj=>by
  rw [xDj (m:=j+1) oMx fun t h1 _=>by rw [hz j t oMx];grind];exact ldl hs hd hi hj
 have hall:∀ j,j<n->xDg n (fun t=>lK M n i t*dD M t*lK M n j t)=M i j:=fun j hj=>by
  rcases Nat.le_total j i with h1|h1
  ·exact hlow i j hi h1
  rw [hs i j hi hj,<-hlow j i hj h1]
  exact xDi fun t _=>by grind
 rw [<-h i hi,xDi (g:=fun j=>xDg n fun t=>lK M n i t*dD M t*lK M n j t*z j) fun j hj=>by
  rw [<-hall j hj,Rat.mul_comm,<-xDl]
  exact xDi fun t _=>by grind,xDp]
 exact xDi fun t _=>by
  rw [<-Rat.mul_assoc,<-xDl]
  exact xDi fun j _=>by grind
end
theorem cramer {n p:Nat} {M:mRx} {y b:Nat->Rat} (hp:p<n) (h:∀ i,i<n->xDg n (fun j=>M i j*y j)=b i):det n (cpd M p b)=det n M*y p:=by
 have e:det n M*y p=det n (mulM n M (cpd idn p y)):=by rw [zMm,zMh hp y]
 rw [e]
 refine (zMf n).ext _ _ fun r c hr hc=>?_
 show (if c=p then b r else M r c)=xDg n fun k=>M r k*(if c=p then y k else idn k c)
 by_cases e:c=p
 ·simp only [if_pos e];exact (h r hr).symm
 simp only [if_neg e];rw [xDn hc fun i hi hne=>by unfold idn;rw [if_neg hne];grind];unfold idn;rw [if_pos rfl]
 grind
theorem xBr {q:Rat} (h:zGp q):IsB 108 (12*q):=by
 obtain ⟨h1,h2⟩:=h;have hp:=q.den_pos
 have e:q.num/(q.den:Rat)=q:=by
  have h3:=Rat.num_divInt_den q
  rwa [Rat.divInt_eq_div,Rat.intCast_natCast] at h3
 have hd:(q.den:Rat)≠0:=by
  intro e0
  have:q.den=0:=by exact_mod_cast e0
  omega
 have key:∀ m:Nat,q.den*m=12->m<=12->IsB 108 (12*q):=fun m hm hm12=>by
  refine ⟨q.num*m,?_,?_⟩
  ·have e2:(12:Rat)=(q.den:Rat)*(m:Rat):=by
    have:((q.den*m:Nat):Rat)=((12:Nat):Rat):=by rw [hm]
    rw [Rat.natCast_mul] at this;exact this.symm
   rw [Rat.intCast_mul,Rat.intCast_natCast]
   have e3:(q.den:Rat)*q=q.num:=by rw [<-e] ;grind
   rw [e2,<-e3];grind
  rw [Int.natAbs_mul,Int.natAbs_natCast];exact Nat.le_trans (Nat.mul_le_mul h1 hm12) dCx
 rcases (show q.den=1\/q.den=2\/q.den=3\/q.den=4 by omega) with h|h|h|h
 ·exact key 12 (by rw [h]) dCx
 ·exact key 6 (by rw [h]) dCx
 ·exact key 4 (by rw [h]) dCx
 exact key 3 (by rw [h]) dCx
theorem detB_108:∀ r,r<=4->zMb 108 r<10^10
 | 0,_=>by decide
 | 1,_=>by decide
 | 2,_=>by decide
 | 3,_=>by decide
 | 4,_=>by decide
theorem detB_39s:∀ r,r<=3->zMb 39 r<10^6
 | 0,_=>by decide
 | 1,_=>by decide
 | 2,_=>by decide
 | 3,_=>by decide
theorem zPc (m:Nat):IsB m (m:Rat):=⟨(m:Int),(Rat.intCast_natCast m).symm,oMx⟩
theorem sol_dig {n p:Nat} {M:mRx} {y b:Nat->Rat} (hn:n<=4) (hM:∀ i k,i<n->k<n->IsB 39 (M i k)) (hd:det n M≠0) (hb:zGq n b) (hp:p<n) (h:∀ i,i<n->xDg n (fun j=>M i j*y j)=b i):zAv 11 (y p):=by
 have h2:=cramer (M:=M) (y:=fun j=>12*y j) (b:=fun i=>12*b i) hp fun i hi=>by
  rw [<-h i hi,<-xDl]
  exact xDi fun j _=>by grind
 have b1:IsB (zMb 108 n) (det n (cpd M p fun i=>12*b i)):=zMe fun r c hr hc=>by
  unfold cpd
  split
  ·exact xBr (hb r hr)
  exact (hM r c hr hc).mono dCx
 have b2:IsB (zMb 39 n*12) (det n M*12):=(zMe hM).mul (zPc 12) rfl
 have h3:det n M*12≠0:=by grind
 have e:y p=det n (cpd M p fun i=>12*b i)/(det n M*12):=by rw [h2];grind
 rw [e];have h4:=detB_108 n hn;have h5:=zMc n hn;exact zXf (d:=11) (b1.mono (b:=10^11-1) oMx) (b2.mono oMx) h3 dCx
theorem lK_dig {n:Nat} {M:mRx} (hn:n<=4) (hM:∀ i k,i<n->k<n->IsB 39 (M i k)) (hd:∀ t,t<n->dD M t≠0):∀ i j,i<n->j<n->zAv 6 (lK M n i j):=fun i j hi hj=>by
 unfold lK
 split
 ·rename_i h
  exact lL_dig (fun t ht=>hd t oMx) hj hM (detB_39s _ oMx) hi
 unfold idn
 split
 ·exact ⟨by unfold Dig;decide,by unfold Dig;decide⟩
 exact ⟨by unfold Dig;decide,by unfold Dig;decide⟩
def gE:Nat->Nat
 | 0=>2
 | s+1=>2*gE s+7
theorem gE_le:∀ s,s<=16->gE s<=600000:=by decide
def tri:Nat->Nat
 | 0=>0
 | i+1=>tri i+i
theorem tri_le:∀ n,n<=4->tri n<=6:=by decide
theorem xEs {a b:Nat} (h:a<=b):tri a<=tri b:=by
 induction h with
 | refl=>exact lRx
 | step _ ih=>exact Nat.le_trans ih (Nat.le_add_right _ _)
def SzA (n s:Nat) (z:Nat->Rat):Prop:=∀ j,j<n->Sz (gE s) (z j)
section
variable {n i k s:Nat} {z:Nat->Rat} {l:Rat}
theorem gE_two (s:Nat):2<=gE s:=by
 cases s with
 | zero=>exact Nat.le_refl 2
 | succ s=>show 2<=2*gE s+7;omega
theorem SzA.up {q:Rat} (h:SzA n s z) (hq:Sz (gE (s+1)) q):SzA n (s+1) (upV z i q):=fun j hj=>by
 by_cases e:j=i
 ·rw [e,xFi];exact hq
 rw [xFj e];exact (h j hj).mono (by show gE s<=2*gE s+7;omega)
theorem SzA.sub (h:SzA n s z) (hl:zAv 6 l) (hi:i<n) (hk:k<n):SzA n (s+1) (upV z i (z i-l*z k)) :=
 h.up (((h i hi).sub (hl.szD.mul (h k hk))).mono (by show _<=2*gE s+7;omega))
theorem SzA.div (h:SzA n s z) (hl:zAv 9 l) (h0:l≠0) (hi:i<n):SzA n (s+1) (upV z i (z i/l)) :=
 h.up (((h i hi).div hl.szD h0).mono (by have:=gE_two s;show _<=2*gE s+7;omega))
end
theorem IndexNo (A:oAx) (ss:List ByteArray) (c:Nat) (w:World) (h:zGw w A ss) (hl:ss.length<=1000) (hne:∀ s∈ss,([48]==s.toList)=false) :
  Calls Tryz.prog 154 #[.slice A ss.length c,.string ⟨#[48]⟩] w fun e w'=>e = .returned (.int .i64 (-1))/\Below w.heap.size w w':=by
 have HS:=oH h;have HNE:=oH hne;clear h hne
 go_enter Tryz.func154,Tryz.ntmps154
 go_wp2_with fail
 go_loop [8] (fun iv=>∃ k:Nat,iv = .int .i64 (k:Int)/\k<=ss.length) (fun iv=>ss.length-(intOf iv).toNat)
 ·exact ⟨0,rfl,oLx⟩
 obtain ⟨k,rfl,hk⟩:=hrel
 by_cases hlt:k<ss.length
 ·obtain ⟨b,off,rfl,hbb,hc⟩:=HS.out (by intro e;subst e;simp at hlt);have hc0:=hc k hlt;have h0:=HNE.out _ (List.getElem_mem hlt);generalize ss[k]=s at *
  have x1:(0:Int)<=(k:Int):=by omega
  have x2:(k:Int)<(ss.length:Int):=by omega
  clear hc;go_wp2_with fail
  go_round
  ·exact ⟨k+1,by go_num,oMx⟩
  simp [intOf];omega
 go_wp2_with fail;go_ret
 exact ⟨rfl,bRx⟩
theorem zAl (A:oAx) (ss:List ByteArray) (c:Nat) (w:World) (h:zGw w A ss) (hl:ss.length<=1000) (hne:∀ s∈ss,([48]==s.toList)=false) :
  Calls Tryz.prog 89 #[.slice A ss.length c,.string ⟨#[48]⟩] w fun e w'=>e = .returned (.bool false)/\Below w.heap.size w w':=by
 have HI:=oH (IndexNo A ss c w h hl hne);clear h hne
 go_enter Tryz.func89,Tryz.ntmps89
 go_wp2_with fail;refine HI.mono ?_;rintro e w1 ⟨rfl,hb⟩;have HB:=oH hb;clear hb;go_wp2_with fail;go_ret
 exact ⟨rfl,HB.out⟩
def XR (B:Nat) (W:World) (g c n:Nat) (z:Nat->Rat):Prop:=∃ us:List FrV,us.length=n/\W.ownsRow B 89 4 (.slice (some ⟨g,0,none⟩) n c) n (frc us)/\∀ k,(h:k<us.length)->zCh W us[k].val (z k)
theorem zCh.row {w:World} {v:Value} {q:Rat} {B e s g n c:Nat} {vs:List Value} (h:zCh w v q) (ho:w.ownsRow B e s (.slice (some ⟨g,0,none⟩) n c) n vs) (hn:∀ x∈vs,∀ z,x ≠ .int .u64 z) {j:Nat} (hj:j<n*s) (u:Value):zCh (w.setCell ⟨g,j,none⟩ u) v q:=by
 obtain ⟨na,nb,A,A',l,c,l',c',e,h1,h2⟩:=h;exact ⟨na,nb,A,A',l,c,l',c',e,h1.row ho hn hj u,h2.row ho hn hj u⟩
theorem frc_noU {us:List FrV}:∀ x∈frc us,∀ z,x ≠ .int .u64 z:=fun x hx=>by
 obtain ⟨u,_,h⟩:=List.mem_flatMap.1 hx;exact zNw x h
theorem zTk {vs:List Value} {j:Nat} {x:Value} (h:∀ y∈vs,∀ z,y ≠ .int .u64 z) (hx:∀ z,x ≠ .int .u64 z):∀ y∈vs.set j x,∀ z,y ≠ .int .u64 z:=fun y hy=>by
 rcases List.mem_or_eq_of_mem_set hy with h1|rfl
 ·exact h y h1
 exact hx
section
variable {B B' n g c i:Nat} {w W W':World} {z:Nat->Rat} {q:Rat} {u:FrV}
theorem XR.below (h:XR B W g c n z) (hb:Below W.heap.size W W'):XR B W' g c n z:=by
 obtain ⟨us,h1,h2,h3⟩:=h;exact ⟨us,h1,zVn h2 hb,fun k hk=>(h3 k hk).below hb⟩
theorem XR.lt (h:XR B W g c n z):B<=g/\g<W.heap.size:=by
 obtain ⟨us,h1,h2,h3⟩:=h;exact h2.lt g rfl
theorem XR.at_ (h:XR B W g c n z) (hi:i<n):∃ u:FrV,W.cell? ⟨g,i*4,none⟩=some (.bool u.na)/\W.cell? ⟨g,i*4+1,none⟩=some (.slice u.A u.l u.c)/\W.cell? ⟨g,i*4+2,none⟩=some (.bool u.nb)/\W.cell? ⟨g,i*4+3,none⟩=some (.slice u.A' u.l' u.c')/\zCh W u.val (z i):=by
 obtain ⟨us,h1,h2,h3⟩:=h;obtain ⟨e1,e2,e3,e4⟩:=zOd (us:=us) (i:=i) oMx;exact ⟨_,(h2.cellAt (i*4) oMx).trans e1,(h2.cellAt (i*4+1) oMx).trans e2,(h2.cellAt (i*4+2) oMx).trans e3,(h2.cellAt (i*4+3) oMx).trans e4,h3 i oMx⟩
theorem XR.fr (h:XR B W g c n z) (j:Nat):W.frozen? ⟨g,j,none⟩=false:=by
 obtain ⟨us,h1,h2,h3⟩:=h;exact h2.frozenAt j
theorem XR.store (h:XR B W g c n z) (hi:i<n) (hu:zCh W u.val q):XR B (put4 W g i u) g c n (upV z i q):=by
 obtain ⟨us,h1,h2,h3⟩:=h;obtain ⟨hr1,hg1⟩:=h2.stored (i*4) (.bool u.na);obtain ⟨hr2,hg2⟩:=hr1.stored (i*4+1) (.slice u.A u.l u.c);obtain ⟨hr3,hg3⟩:=hr2.stored (i*4+2) (.bool u.nb);obtain ⟨hr4,hg4⟩:=hr3.stored (i*4+3) (.slice u.A' u.l' u.c');have n0:=frc_noU (us:=us);have n1:=zTk (j:=i*4) n0 (x := .bool u.na) (fun z e=>by cases e);have n2:=zTk (j:=i*4+1) n1 (x := .slice u.A u.l u.c) (fun z e=>by cases e);have n3:=zTk (j:=i*4+2) n2 (x := .bool u.nb) (fun z e=>by cases e)
 have hkeep:∀ v y,zCh W v y->zCh (put4 W g i u) v y:=fun v y hv =>
  (((hv.row h2 n0 oMx _).row hr1 n1 oMx _).row hr2 n2 oMx _).row hr3 n3 oMx _
 rw [zOe oMx u] at hr4;refine ⟨us.set i u,by rw [List.length_set];exact h1,hr4,fun k hk=>?_⟩
 by_cases e:k=i
 ·subst e;rw [xFi];simp only [List.getElem_set_self];exact hkeep _ _ hu
 rw [xFj e];simp only [List.getElem_set_ne (Ne.symm e)];exact hkeep _ _ (h3 k (by simpa using hk))
end
theorem zAr (AD Ab:oAx) (U cD cb n:Nat) (rsL:List zGk) (ds ss:List ByteArray) (L:mRx) (D bq:Nat->Rat) (w:World) (hL:zCz w (some ⟨U,0,none⟩) rsL) (hLf:zCy rsL n n L) (hcp:∀ r∈rsL,r.ss.length<=r.cp) (hlow:∀ i k,i<n->k<n->i<=k->L i k=idn i k) (hLd:∀ i k,i<n->k<n->zAv 6 (L i k))
  (hD:zGw w AD ds) (hdv:zHn ds n D) (hDd:∀ t,t<n->zAv 8 (D t)) (hD0:∀ t,t<n->D t≠0) (hs:zGw w Ab ss) (hv:zHn ss n bq) (hbd:∀ i,i<n->zAv 2 (bq i)) (hn1:1<=n) (hn:n<=4) (hfit:∀ z,SolF n L D bq z->∀ i,i<n->zBt (z i)) (henv:Env w) :
  Calls Tryz.prog 27 #[.agg #[.slice (some ⟨U,0,none⟩) n n,.slice AD n cD],.slice Ab n cb] w fun e w'=>∃ z,SolF n L D bq z/\zGb w n z e w':=by
 generalize hQ:(fun e w'=>∃ z,SolF n L D bq z/\zGb w n z e w')=Q;replace hQ:=oH hQ;have hdl:=hdv.len;have hsl:=hv.len
 have HSH:=oH (fun W (hW:Below w.heap.size w W)=>(show Calls Tryz.prog 65 #[.slice (some ⟨U,0,none⟩) n n] W _ from by
  have h9:=zGn (some ⟨U,0,none⟩) rsL n n W (hL.below hW) (hLf.fine oMx oMx (fun e=>e)) (henv.below hW);rw [hLf.len] at h9
  exact h9))
 have hcon:∀ (A:oAx) (xs:List ByteArray) (c:Nat) (x:Nat->Rat),zGw w A xs->zHn xs n x->∀ W,Below w.heap.size w W->Calls Tryz.prog 67 #[.slice A n c,.func (.func 86) #[] #[]] W (fun e w'=>e = .returned (.bool false)/\Below W.heap.size W w'):=fun A xs c x hx hxv W hW=>by
  have h9:=ConSo (fun s => !vR s) A xs c W (hx.below hW) (by rw [hxv.len];omega) (fun s hs' W' hW'=>dsolve1 s W' (hxv.valid s hs').2 ((henv.below hW).below hW'))
  rw [hxv.len,show xs.any (fun s => !vR s)=false from by
   rw [List.any_eq_false]
   intro s hs'
   simp [(hxv.valid s hs').1]] at h9
  exact h9
 have HCD:=oH (hcon AD ds cD D hD hdv);have HCB:=oH (hcon Ab ss cb bq hs hv)
 have HHL:=oH (fun W (hW:Below w.heap.size w W)=>(show Calls Tryz.prog 87 #[.slice (some ⟨U,0,none⟩) n n] W (fun e w'=>e = .returned (.bool false)/\Below W.heap.size W w') from by
  have h9:=zCa (some ⟨U,0,none⟩) n n rsL W (hL.below hW) (hLf.fine oMx oMx (fun e=>e)) (by rw [hLf.len];exact hn1) hn1 (henv.below hW);rw [hLf.len,decide_eq_false (hLf.light hn hn dCx dCx hLd)] at h9
  exact h9))
 have HHC:=oH (fun W A5 c5 rs5 (x:Nat->Rat) (hm:zCz W A5 rs5) (h5:zCy rs5 n 1 (fun i _=>x i)) (hd:∀ i,i<n->zAv 8 (x i)) (hW:Below w.heap.size w W)=>(show Calls Tryz.prog 87 #[.slice A5 n c5] W (fun e w'=>e = .returned (.bool false)/\Below W.heap.size W w') from by
  have h9:=zCa A5 c5 1 rs5 W hm (h5.fine oMx dCx (fun e=>by omega)) (by rw [h5.len];exact hn1) dCx (henv.below hW);rw [h5.len,decide_eq_false (h5.light hn dCx dCx dCx fun i _ hi _=>hd i hi)] at h9
  exact h9))
 have HCOD:=oH (fun W (hW:Below w.heap.size w W)=>(show Calls Tryz.prog 88 #[.slice AD n cD] W (zFp W ds) by rw [<-hdl];exact zAj AD ds cD W (hD.below hW) oMx));have HCOB:=oH (fun W (hW:Below w.heap.size w W)=>(show Calls Tryz.prog 88 #[.slice Ab n cb] W (zFp W ss) by rw [<-hsl];exact zAj Ab ss cb W (hs.below hW) oMx));have HLO:=oH (fun W (hW:Below w.heap.size w W)=>zRt (some ⟨U,0,none⟩) n n rsL L W (hL.below hW) hLf hcp oMx hlow)
 have HCN:=oH (fun W (hW:Below w.heap.size w W)=>(show Calls Tryz.prog 89 #[.slice AD n cD,.string ⟨#[48]⟩] W (fun e w'=>e = .returned (.bool false)/\Below W.heap.size W w') from by
  have h9:=zAl AD ds cD W (hD.below hW) oMx (fun s hs'=>by
   obtain ⟨t,ht,rfl⟩:=List.getElem_of_mem hs';rw [hdv.cel t ht]
   have h8:=xEl (x:=⟨#[48]⟩) (y:=zYy (D t)) fun e=>hD0 t oMx (zYz (by rw [zZi];exact e.symm))
   rwa [show (⟨#[48]⟩:ByteArray).toList=[48] by decide +kernel] at h8)
  rw [hdl] at h9
  exact h9))
 have HLS:=oH (fun W (hW:Below w.heap.size w W)=>(show Calls Tryz.prog 70 #[.slice Ab n cb] W (RetFrs W (ss.map xFp)) from by
  rw [<-hsl]
  exact zBg Ab ss cb W (hs.below hW) oMx (fun s hs'=>(hv.valid s hs').1) (henv.below hW)))
 have HVS:=oH (fun k (hk:k<ss.length)=>(show xFp ss[k]=bq k by rw [hv.cel k hk,xFq (hv.fit k oMx)]));obtain ⟨gU,oU,e0,hgU,hgr⟩:=zSo hL hLf hn1 hn1;injection e0 with e0;injection e0 with e0 e00;subst e0 e00
 have HGR:=oH (show ∀ i,i<n->∃ b2 o2 cp:Nat,b2<w.heap.size/\w.cell? ⟨U,i,none⟩=some (.slice (some ⟨b2,o2,none⟩) n cp)/\∀ k,k<n->w.cell? ⟨b2,o2+k,none⟩=some (.string (zYy (L i k))) from fun i hi=>by
  obtain ⟨b2,o2,cp,h1,h2,h3⟩:=hgr i hi;rw [Nat.zero_add] at h2
  exact ⟨b2,o2,cp,h1,h2,h3⟩)
 obtain ⟨gd,od,rfl,hgd,hdc⟩:=hD (by intro e;rw [e] at hdl;simp at hdl;omega);have HDC:=oH (fun i (hi:i<n)=>(show w.cell? ⟨gd,od+i,none⟩=some (.string (zYy (D i))) by rw [hdc i oMx,hdv.cel i oMx]));have HDF:=oH hdv.fit;have HDV:=oH hdv;have HBV:=oH hv;have HDD:=oH hDd;have HD0:=oH hD0;have HBD8:=oH (fun i hi=>(hbd i hi).mono (show 2<=8 by decide));have HBZ:=oH (show SzA n 0 bq from fun i hi=>(hbd i hi).szD);have HLF:=oH hLf;have HLD:=oH hLd;have HLW:=oH hlow;have HFI:=oH hfit;have HE:=oH henv;have HSL:=oH hsl;have htri:=tri_le n hn;have HX:=oH (Blk.new w 31 [.slice (some ⟨U,0,none⟩) n n,.slice (some ⟨gd,od,none⟩) n cD]);have HB:=oH (show Below w.heap.size w (w.alloc (.cells #[.slice (some ⟨U,0,none⟩) n n,.slice (some ⟨gd,od,none⟩) n cD] 31)) from bA);clear hL hLf hcp hlow hLd hD hdv hDd hD0 hs hv hbd hfit henv hcon hgr hdc hdl hsl
 go_enter Tryz.func27,Tryz.ntmps27
 go_upto_region 1 with (fail);generalize (w.alloc (.cells #[.slice (some ⟨U,0,none⟩) n n,.slice (some ⟨gd,od,none⟩) n cD] 31))=w0 at *;obtain ⟨xb,hxb⟩:=eXx (w.heap.size);have HXB:=oH hxb;rw [hxb] at HX;rw [hxb];clear hxb;have x0:=HX.at_ (i:=0) rfl;have x1:=HX.at_ (i:=1) rfl;go_wp2_with fail;refine (HSH.out _ HB.out).mono ?_;rintro e w1 ⟨rfl,hb⟩;replace HX:=oH (HX.below hb);replace HB:=bTx2 HB hb
 have hnn:((n:Int) != (n:Int))=false:=by simp
 clear x0 x1 hb;have x0:=HX.at_ (i:=0) rfl;have x1:=HX.at_ (i:=1) rfl;go_wp2_with fail;refine (HCD.out _ HB.out).mono ?_;rintro e w2 ⟨rfl,hb⟩;replace HX:=oH (HX.below hb);replace HB:=bTx2 HB hb;clear hnn;clear x0 x1 hb;have x0:=HX.at_ (i:=0) rfl;have x1:=HX.at_ (i:=1) rfl;go_wp2_with fail;refine (HCB.out _ HB.out).mono ?_;rintro e w3 ⟨rfl,hb⟩;replace HX:=oH (HX.below hb);replace HB:=bTx2 HB hb;clear x0 x1 hb;have x0:=HX.at_ (i:=0) rfl;have x1:=HX.at_ (i:=1) rfl;go_wp2_with fail;refine (HHL.out _ HB.out).mono ?_;rintro e w4 ⟨rfl,hb⟩;replace HX:=oH (HX.below hb);replace HB:=bTx2 HB hb;clear x0 x1 hb;have x0:=HX.at_ (i:=0) rfl;have x1:=HX.at_ (i:=1) rfl;go_wp2_with fail;refine (HCOD.out _ HB.out).mono ?_;rintro e w5 ⟨v5,rs5,rfl,hrs5,hmo5,hb⟩;replace HX:=oH (HX.below hb);replace HB:=bTx2 HB hb;obtain ⟨A5,c5,rfl, -⟩:=zVk hmo5.o;have HH5:=oH (HHC.out w5 A5 c5 rs5 D hmo5.read (zJv hrs5 HDV.out) HDD.out HB.out)
 have hl5:rs5.length=n:=(zJv hrs5 HDV.out).len;rw [hl5];clear hmo5 hrs5 hl5;clear x0 x1 hb;have x0:=HX.at_ (i:=0) rfl;have x1:=HX.at_ (i:=1) rfl;go_wp2_with fail;refine (HH5.out).mono ?_;rintro e w6 ⟨rfl,hb⟩;replace HX:=oH (HX.below hb);replace HB:=bTx2 HB hb;clear HH5;clear x0 x1 hb;have x0:=HX.at_ (i:=0) rfl;have x1:=HX.at_ (i:=1) rfl;go_wp2_with fail;refine (HCOB.out _ HB.out).mono ?_;rintro e w7 ⟨v5,rs5,rfl,hrs5,hmo5,hb⟩;replace HX:=oH (HX.below hb);replace HB:=bTx2 HB hb;obtain ⟨A5,c5,rfl, -⟩:=zVk hmo5.o;have HH5:=oH (HHC.out w7 A5 c5 rs5 bq hmo5.read (zJv hrs5 HBV.out) HBD8.out HB.out);have hl5:rs5.length=n:=(zJv hrs5 HBV.out).len;rw [hl5];clear hmo5 hrs5 hl5;clear x0 x1 hb;have x0:=HX.at_ (i:=0) rfl;have x1:=HX.at_ (i:=1) rfl;go_wp2_with fail;refine (HH5.out).mono ?_;rintro e w8 ⟨rfl,hb⟩;replace HX:=oH (HX.below hb);replace HB:=bTx2 HB hb;clear HH5;clear x0 x1 hb;have x0:=HX.at_ (i:=0) rfl
 have x1:=HX.at_ (i:=1) rfl;go_wp2_with fail;refine (HLO.out _ HB.out).mono ?_;rintro e w9 ⟨rfl,hb⟩;replace HX:=oH (HX.below hb);replace HB:=bTx2 HB hb;clear x0 x1 hb;have x0:=HX.at_ (i:=0) rfl;have x1:=HX.at_ (i:=1) rfl;go_wp2_with fail;refine (HCN.out _ HB.out).mono ?_;rintro e w10 ⟨rfl,hb⟩;replace HX:=oH (HX.below hb);replace HB:=bTx2 HB hb;clear x0 x1 hb;have x0:=HX.at_ (i:=0) rfl;have x1:=HX.at_ (i:=1) rfl;clear HSH HCD HCB HHL HHC HCOD HCOB HLO HCN HDV HBV HBD8 x0 x1;obtain ⟨wb,rfl⟩:=nWx w10;go_wp2_with fail;refine (HLS.out wb HB.out).mono ?_;rintro e ws ⟨vs,us,rfl,hown, -,hfrs,hbs⟩
 have hul:us.length=n:=by have:=hfrs.1;rw [List.length_map] at this;have:=HSL.out;omega
 rw [hul] at hown;obtain ⟨AX,cX,rfl, -⟩:=zVk hown;obtain ⟨gx,rfl⟩:=zVj hown oMx
 have HX0:=oH (show XR wb.heap.size ws gx cX n bq from ⟨us,hul,hown,fun k hk=>by
  have h1:=hfrs.2 k hk (by rw [List.length_map];have:=HSL.out;omega);rw [List.getElem_map,HVS.out] at h1
  exact h1⟩)
 have HBS:=oH hbs;clear hown hfrs hbs hul HLS HVS HSL;go_wp2_with fail
 go_loopw [83] (fun iv wr=>∃ (i:Nat) (z:Nat->Rat),iv = .int .i64 (i:Int)/\i<=n/\XR wb.heap.size wr gx cX n z/\Fwd n L bq i z/\SzA n (tri i) z/\Below wb.heap.size wb wr) (fun iv _=>n-(intOf iv).toNat)
 ·exact ⟨0,bq,rfl,oLx,HX0.out,Fwd.zero n L bq,HBZ.out,HBS.out⟩
 clear HX0 HBS HBZ;obtain ⟨i,z,rfl,hin,hx,hfw,hsz,hbi⟩:=hrel;obtain ⟨wi,rfl⟩:=nWx wr;have HXR:=oH hx;have HFW0:=oH hfw;have HSZ0:=oH hsz;have HBI:=oH hbi;clear hx hfw hsz hbi
 by_cases hlt:i<n
 ·have htri2:=xEs (show i+1<=n from hlt);have htri3:tri (i+1)=tri i+i:=rfl;go_wp2_with fail
  go_loopw [87] (fun kv wr=>∃ (k:Nat) (z:Nat->Rat),kv = .int .i64 (k:Int)/\k<=i/\XR wb.heap.size wr gx cX n z/\zBx n L bq i k z/\SzA n (tri i+k) z/\Below wb.heap.size wb wr) (fun kv _=>i-(intOf kv).toNat)
  ·exact ⟨0,z,rfl,oLx,HXR.out,HFW0.start hlt,HSZ0.out,HBI.out⟩
  clear HXR HFW0 HSZ0 HBI;obtain ⟨k,z,rfl,hkn,hx,hfw,hsz,hbj⟩:=hrel;obtain ⟨wj,rfl⟩:=nWx wr
  by_cases hki:k<i
  ·have hltk:k<n:=by omega
   have hgB:=hx.lt.1;obtain ⟨ua,p0,p1,p2,p3,hfa⟩:=hx.at_ (i:=i) hlt;obtain ⟨ub,p4,p5,p6,p7,hfb⟩:=hx.at_ (i:=k) hltk;obtain ⟨gr,ro,rc,hgr,c1,d1⟩:=HGR.out i hlt;have q5:=(HX.below hbj).at_ (i:=0) rfl;have q1:=((HB.trans (hbj.mono HB.size)).cell (p:=⟨U,i,none⟩) hgU).trans c1;have q3:=((HB.trans (hbj.mono HB.size)).cell (p:=⟨gr,ro+k,none⟩) hgr).trans (d1 k hltk);have HR1:=oH (fun W hE=>zBl (L i k) W (HLF.fit i k hlt hltk) hE);have hsl:Sz 6 (L i k):=(HLD.out i k hlt hltk).szD;have hsk:=hsz k hltk;have hsi:=hsz i hlt;have hge:=gE_le (tri i+k) oMx;have HFW:=oH (hfw.step hki);have HSZ:=oH (hsz.sub (HLD.out i k hlt hltk) hlt hltk);have HST:=oH (fun W (hW:Below wj.heap.size wj W) (u:FrV) (hu:zCh W u.val (z i-L i k*z k))=>(hx.below hW).store hlt hu);have HFR:=oH (fun W (hW:Below wj.heap.size wj W) j=>(hx.below hW).fr j);have HBJ:=oH hbj;have HEJ:=oH (HE.below (HB.trans (hbj.mono HB.size)));generalize gE (tri i+k)=ge at *
   obtain ⟨qi,hqi⟩:=eXx (z i);obtain ⟨qk,hqk⟩:=eXx (z k);obtain ⟨ql,hql⟩:=eXx (L i k);rw [hql] at HR1 hsl q3 HST HFW HSZ;rw [hqk] at hsk hfb HST HFW HSZ;rw [hqi] at hsi hfa HST HFW HSZ;obtain ⟨s1,hs1⟩:=eXx (zYy ql);rw [hs1] at HR1 q3;obtain ⟨a0,a1,a2,a3,a4,a5,a6,a7⟩:=ua;obtain ⟨b0,b1,b2,b3,b4,b5,b6,b7⟩:=ub;have KB:=oH (fun W' (hW:Below wj.heap.size wj W')=>(show W'.cell? ⟨gx,i*4,none⟩=some (.bool a0)/\W'.cell? ⟨gx,i*4+1,none⟩=some (.slice a1 a2 a3)/\W'.cell? ⟨gx,i*4+2,none⟩=some (.bool a4)/\W'.cell? ⟨gx,i*4+3,none⟩=some (.slice a5 a6 a7)/\W'.cell? ⟨gx,k*4,none⟩=some (.bool b0)/\W'.cell? ⟨gx,k*4+1,none⟩=some (.slice b1 b2 b3)/\W'.cell? ⟨gx,k*4+2,none⟩=some (.bool b4)/\W'.cell? ⟨gx,k*4+3,none⟩=some (.slice b5 b6 b7)/\W'.cell? ⟨xb,0,none⟩=some (.slice (some ⟨U,0,none⟩) n n)/\W'.cell? ⟨U,i,none⟩=some (.slice (some ⟨gr,ro,none⟩) n rc)/\W'.cell? ⟨gr,ro+k,none⟩=some (.string s1) from ⟨kP hW p0,kP hW p1,kP hW p2,kP hW p3,kP hW p4,kP hW p5,kP hW p6,kP hW p7,kP hW q5,kP hW q1,kP hW q3⟩))
   have HWz:=oH (show Below wj.heap.size wj wj.drew from bRx.drew);have KSz:=oH (KB.out _ HWz.out);have HXI:=oH (show zCh wj (.agg #[.bool a0,.slice a1 a2 a3,.bool a4,.slice a5 a6 a7]) qi from hfa);have HXK:=oH (show zCh wj (.agg #[.bool b0,.slice b1 b2 b3,.bool b4,.slice b5 b6 b7]) qk from hfb)
   have i1:(0:Int)<=(i:Int):=by omega
   have i2:(i:Int)<(n:Int):=by omega
   have k1:(0:Int)<=(k:Int):=by omega
   have k2:(k:Int)<(n:Int):=by omega
   clear hx hfw hsz hbj hfa hqi hql hs1 p0 p1 p2 p3 p4 p5 p6 p7 q5 q1 q3 hfb hqk c1 d1 hgr;go_wp2_with fail;refine xHt (S:=(fun w'=>w'.cell? ⟨gx,i*4,none⟩=some (.bool a0)/\w'.cell? ⟨gx,i*4+1,none⟩=some (.slice a1 a2 a3)/\w'.cell? ⟨gx,i*4+2,none⟩=some (.bool a4)/\w'.cell? ⟨gx,i*4+3,none⟩=some (.slice a5 a6 a7)/\w'.cell? ⟨gx,k*4,none⟩=some (.bool b0)/\w'.cell? ⟨gx,k*4+1,none⟩=some (.slice b1 b2 b3)/\w'.cell? ⟨gx,k*4+2,none⟩=some (.bool b4)/\w'.cell? ⟨gx,k*4+3,none⟩=some (.slice b5 b6 b7)/\w'.cell? ⟨xb,0,none⟩=some (.slice (some ⟨U,0,none⟩) n n)/\w'.cell? ⟨U,i,none⟩=some (.slice (some ⟨gr,ro,none⟩) n rc)/\w'.cell? ⟨gr,ro+k,none⟩=some (.string s1))) 22 (by kernel_rfl) rfl (by kernel_rfl) (by kernel_rfl) rfl (by exact KSz.out) (fun hHeld=>?_);simp only [List.pop_toArray,List.dropLast_cons_cons,List.dropLast_singleton];refine tkH 0 ?_;refine tkH 1 ?_;refine tkH 2 ?_;refine tkH 3 ?_;refine tkH 4 ?_
   refine tkH 5 ?_;refine tkH 6 ?_;refine tkH 7 ?_;refine tkH 8 ?_;refine tkH 9 ?_;refine tkH 10 ?_;refine tkH 11 ?_;refine tkH 12 ?_;refine tkH 13 ?_;refine tkH 15 ?_;refine tkH 16 ?_;refine tkH 17 ?_;refine tkH 18 ?_
   try simp only [Act.put,tkA,tkB,tkC]
   refine tkS 14 fun K hK=>?_
   go_simp
   (go_at_call 60;(with_reducible refine (HR1.out _ (HEJ.out.below HWz.out)).mono ?_);rintro e wa' ⟨va',rfl,hv,hb⟩;have hw:=HWz.out.trans (hb.mono HWz.out.size);have HWa':=oH hw;have HVa':=oH hv;obtain ⟨ra'0,ra'4,ra'1,ra'5,ra'2,ra'3,ra'6,ra'7,rfl⟩:=hv.slice;have KSa':=oH (KB.out wa' hw);clear hv hb hw)
   go_wp2_with fail;refine hK.out _ _ ?_ (fun hHeld=>?_)
   ·first|exact KSa'.out|exact KSb'.out|exact KSc'.out
   clear hK K
   try simp only [Act.put,tkA,tkB,tkC]
   refine tkS 19 fun K hK=>?_
   go_simp
   (go_at_call 73;(with_reducible refine (zBh _ _ ql qk _ HVa'.out (HXK.out.below HWa'.out) (hsl.mono dCx) (hsk.mono oMx)).mono ?_);rintro e wb' ⟨vb',rfl,hv,hb⟩;have hw:=HWa'.out.trans (hb.mono HWa'.out.size);have HWb':=oH hw;have HVb':=oH hv;obtain ⟨rb'0,rb'4,rb'1,rb'5,rb'2,rb'3,rb'6,rb'7,rfl⟩:=hv.slice;have KSb':=oH (KB.out wb' hw);clear hv hb hw)
   go_wp2_with fail;refine hK.out _ _ ?_ (fun hHeld=>?_)
   ·first|exact KSa'.out|exact KSb'.out|exact KSc'.out
   clear hK K
   try simp only [Act.put,tkA,tkB,tkC]
   refine tkS 20 fun K hK=>?_
   go_simp
   (go_at_call 90;(with_reducible refine (zBo _ _ qi (ql*qk) _ (HXI.out.below HWb'.out) HVb'.out (hsi.mono oMx) ((hsl.mul hsk).mono oMx)).mono ?_);rintro e wc' ⟨vc',rfl,hv,hb⟩;have hw:=HWb'.out.trans (hb.mono HWb'.out.size);have HWc':=oH hw;have HVc':=oH hv;obtain ⟨rc'0,rc'4,rc'1,rc'5,rc'2,rc'3,rc'6,rc'7,rfl⟩:=hv.slice;have KSc':=oH (KB.out wc' hw);clear hv hb hw)
   go_wp2_with fail;refine hK.out _ _ ?_ (fun hHeld=>?_)
   ·first|exact KSa'.out|exact KSb'.out|exact KSc'.out
   clear hK K
   try simp only [Act.put,tkA,tkB,tkC]
   refine tkH 21 ?_
   try simp only [Act.put,tkA,tkB,tkC]
   refine wpAnyH_done (by kernel_rfl) ?_ _;simp only [xEe,List.getElem_toArray,List.getElem_cons_succ,List.getElem_cons_zero];obtain ⟨d0,d1,d2,d3, -⟩:=KSc'.out;have f0:=HFR.out _ HWc'.out (i*4);have f1:=HFR.out _ HWc'.out (i*4+1);have f2:=HFR.out _ HWc'.out (i*4+2);have f3:=HFR.out _ HWc'.out (i*4+3);go_wp2_with fail;go_roundw
   ·exact ⟨k+1,_,by go_num,oMx,HST.out _ HWc'.out ⟨rc'0,rc'1,rc'2,rc'3,rc'4,rc'5,rc'6,rc'7⟩ HVc'.out,HFW.out,HSZ.out,zIk (HBJ.trans (HWc'.mono HBJ.size)) hgB i ⟨rc'0,rc'1,rc'2,rc'3,rc'4,rc'5,rc'6,rc'7⟩⟩
   simp [intOf];omega
  have hke:k=i:=by omega
  rw [hke] at hfw hsz;have HXE:=oH hx;have HFE:=oH hfw.done;have HSE:=oH hsz;have HBE:=oH hbj;clear hx hfw hsz hbj hke;go_wp2_with fail;go_roundw
  ·exact ⟨i+1,z,by go_num,oMx,HXE.out,HFE.out,HSE.out,HBE.out⟩
  simp [intOf];omega
 have hie:i=n:=by omega
 have hfe:=HFW0.out;have hse:=HSZ0.out;rw [hie] at hfe hse;have HFE:=oH hfe;obtain ⟨z0,hz0⟩:∃ z',z=z':=⟨_,rfl⟩;have HSE:=oH (show SzA n (tri n+0) z from hse);clear HFW0 HSZ0 hfe hse hie;rw [hz0] at HFE;have HZZ:=oH hz0;clear hz0;go_wp2_with fail
 go_loopw [116] (fun iv wr=>∃ (i:Nat) (z:Nat->Rat),iv = .int .i64 (i:Int)/\i<=n/\XR wb.heap.size wr gx cX n z/\Dvd n D z0 i z/\SzA n (tri n+i) z/\Below wb.heap.size wb wr) (fun iv _=>n-(intOf iv).toNat)
 ·exact ⟨0,z,rfl,oLx,HXR.out,by rw [HZZ.out];exact Dvd.zero n D z0,HSE.out,HBI.out⟩
 clear HXR HSE HBI HZZ;obtain ⟨i,z,rfl,hin,hx,hfw,hsz,hbj⟩:=hrel;obtain ⟨wj,rfl⟩:=nWx wr
 by_cases hlt:i<n
 ·skip
  have hgB:=hx.lt.1;obtain ⟨ua,p0,p1,p2,p3,hfa⟩:=hx.at_ (i:=i) hlt;have q5:=(HX.below hbj).at_ (i:=1) rfl;have q3:=((HB.trans (hbj.mono HB.size)).cell (p:=⟨gd,od+i,none⟩) hgd).trans (HDC.out i hlt);have HR1:=oH (fun W hE=>zBl (D i) W (HDF.out i hlt) hE);have hsl:Sz 8 (D i):=(HDD.out i hlt).szD;have HQL:=oH (HD0.out i hlt);have hsi:=hsz i hlt;have hge:=gE_le (tri n+i) oMx;have HFW:=oH (hfw.step hlt);have HSZ:=oH (hsz.div ((HDD.out i hlt).mono dCx) (HD0.out i hlt) hlt);have HST:=oH (fun W (hW:Below wj.heap.size wj W) (u:FrV) (hu:zCh W u.val (z i/D i))=>(hx.below hW).store hlt hu);have HFR:=oH (fun W (hW:Below wj.heap.size wj W) j=>(hx.below hW).fr j);have HBJ:=oH hbj;have HEJ:=oH (HE.below (HB.trans (hbj.mono HB.size)));generalize gE (tri n+i)=ge at *;obtain ⟨qi,hqi⟩:=eXx (z i);obtain ⟨ql,hql⟩:=eXx (D i);rw [hql] at HR1 hsl q3 HQL HST HFW HSZ;rw [hqi] at hsi hfa HST HFW HSZ;obtain ⟨s1,hs1⟩:=eXx (zYy ql)
  rw [hs1] at HR1 q3;obtain ⟨a0,a1,a2,a3,a4,a5,a6,a7⟩:=ua;have KB:=oH (fun W' (hW:Below wj.heap.size wj W')=>(show W'.cell? ⟨gx,i*4,none⟩=some (.bool a0)/\W'.cell? ⟨gx,i*4+1,none⟩=some (.slice a1 a2 a3)/\W'.cell? ⟨gx,i*4+2,none⟩=some (.bool a4)/\W'.cell? ⟨gx,i*4+3,none⟩=some (.slice a5 a6 a7)/\W'.cell? ⟨xb,1,none⟩=some (.slice (some ⟨gd,od,none⟩) n cD)/\W'.cell? ⟨gd,od+i,none⟩=some (.string s1) from ⟨kP hW p0,kP hW p1,kP hW p2,kP hW p3,kP hW q5,kP hW q3⟩));have HWz:=oH (show Below wj.heap.size wj wj.drew from bRx.drew);have KSz:=oH (KB.out _ HWz.out);have HXI:=oH (show zCh wj (.agg #[.bool a0,.slice a1 a2 a3,.bool a4,.slice a5 a6 a7]) qi from hfa)
  have i1:(0:Int)<=(i:Int):=by omega
  have i2:(i:Int)<(n:Int):=by omega
  clear hx hfw hsz hbj hfa hqi hql hs1 p0 p1 p2 p3 q5 q3;go_wp2_with fail;refine xHt (S:=(fun w'=>w'.cell? ⟨gx,i*4,none⟩=some (.bool a0)/\w'.cell? ⟨gx,i*4+1,none⟩=some (.slice a1 a2 a3)/\w'.cell? ⟨gx,i*4+2,none⟩=some (.bool a4)/\w'.cell? ⟨gx,i*4+3,none⟩=some (.slice a5 a6 a7)/\w'.cell? ⟨xb,1,none⟩=some (.slice (some ⟨gd,od,none⟩) n cD)/\w'.cell? ⟨gd,od+i,none⟩=some (.string s1))) 14 (by kernel_rfl) rfl (by kernel_rfl) (by kernel_rfl) rfl (by exact KSz.out) (fun hHeld=>?_);simp only [List.pop_toArray,List.dropLast_cons_cons,List.dropLast_singleton];refine tkH 0 ?_;refine tkH 1 ?_;refine tkH 2 ?_;refine tkH 3 ?_;refine tkH 4 ?_;refine tkH 5 ?_;refine tkH 6 ?_;refine tkH 7 ?_;refine tkH 8 ?_;refine tkH 9 ?_;refine tkH 10 ?_
  try simp only [Act.put,tkA,tkB,tkC]
  refine tkS 11 fun K hK=>?_
  go_simp
  (go_at_call 60;(with_reducible refine (HR1.out _ (HEJ.out.below HWz.out)).mono ?_);rintro e wa' ⟨va',rfl,hv,hb⟩;have hw:=HWz.out.trans (hb.mono HWz.out.size);have HWa':=oH hw;have HVa':=oH hv;obtain ⟨ra'0,ra'4,ra'1,ra'5,ra'2,ra'3,ra'6,ra'7,rfl⟩:=hv.slice;have KSa':=oH (KB.out wa' hw);clear hv hb hw)
  go_wp2_with fail;refine hK.out _ _ ?_ (fun hHeld=>?_)
  ·first|exact KSa'.out|exact KSc'.out
  clear hK K
  try simp only [Act.put,tkA,tkB,tkC]
  refine tkS 12 fun K hK=>?_
  go_simp
  (go_at_call 91;(with_reducible refine (FDiv_any _ _ qi ql _ (HXI.out.below HWa'.out) HVa'.out (hsi.mono oMx) (hsl.mono dCx) HQL.out).mono ?_);rintro e wc' ⟨vc',rfl,hv,hb⟩;have hw:=HWa'.out.trans (hb.mono HWa'.out.size);have HWc':=oH hw;have HVc':=oH hv;obtain ⟨rc'0,rc'4,rc'1,rc'5,rc'2,rc'3,rc'6,rc'7,rfl⟩:=hv.slice;have KSc':=oH (KB.out wc' hw);clear hv hb hw)
  go_wp2_with fail;refine hK.out _ _ ?_ (fun hHeld=>?_)
  ·first|exact KSa'.out|exact KSc'.out
  clear hK K
  try simp only [Act.put,tkA,tkB,tkC]
  refine tkH 13 ?_
  try simp only [Act.put,tkA,tkB,tkC]
  refine wpAnyH_done (by kernel_rfl) ?_ _;simp only [xEe,List.getElem_toArray,List.getElem_cons_succ,List.getElem_cons_zero];obtain ⟨d0,d1,d2,d3, -⟩:=KSc'.out;have f0:=HFR.out _ HWc'.out (i*4);have f1:=HFR.out _ HWc'.out (i*4+1);have f2:=HFR.out _ HWc'.out (i*4+2);have f3:=HFR.out _ HWc'.out (i*4+3);go_wp2_with fail;go_roundw
  ·exact ⟨i+1,_,by go_num,oMx,HST.out _ HWc'.out ⟨rc'0,rc'1,rc'2,rc'3,rc'4,rc'5,rc'6,rc'7⟩ HVc'.out,HFW.out,HSZ.out,zIk (HBJ.trans (HWc'.mono HBJ.size)) hgB i ⟨rc'0,rc'1,rc'2,rc'3,rc'4,rc'5,rc'6,rc'7⟩⟩
  simp [intOf];omega
 have hie:i=n:=by omega
 rw [hie] at hfw hsz;obtain ⟨z1,hz1⟩:∃ z',z=z':=⟨_,rfl⟩;rw [hz1] at hfw;have HDE:=oH hfw;have HZ1:=oH hz1;have HXE:=oH hx;have HSE:=oH (show SzA n (tri n+n+tri (n-n)) z by rw [Nat.sub_self];exact hsz);have HBE:=oH hbj;clear hx hfw hsz hbj hie hz1;go_wp2_with fail
 go_loopw [14] (fun iv wr=>∃ (y:Int) (m:Nat) (z:Nat->Rat),iv = .int .i64 y/\y=(m:Int)-1/\m<=n/\XR wb.heap.size wr gx cX n z/\Bwd n L z1 m z/\SzA n (tri n+n+tri (n-m)) z/\Below wb.heap.size wb wr) (fun iv _=>(intOf iv+1).toNat)
 ·exact ⟨(n:Int)-1,n,z,rfl,rfl,lRx,HXE.out,by rw [HZ1.out];exact Bwd.zero n L z1,HSE.out,HBE.out⟩
 clear HXE HSE HBE HZ1;obtain ⟨y,m,z,rfl,hym,hmn,hx,hfw,hsz,hbi⟩:=hrel;obtain ⟨wi,rfl⟩:=nWx wr;have HXR:=oH hx;have HFW0:=oH hfw;have HSZ0:=oH hsz;have HBI:=oH hbi;clear hx hfw hsz hbi
 by_cases hm0:0<m
 ·obtain ⟨i,rfl⟩:∃ i,m=i+1:=⟨m-1,oMx⟩
  obtain rfl:y=(i:Int):=by omega
  have hlt:i<n:=by omega
  have hi0:(0:Int)<=(i:Int):=by omega
  have htri2:=xEs (show n-(i+1)+1<=n by omega);have htri3:tri (n-(i+1)+1)=tri (n-(i+1))+(n-(i+1)):=rfl;clear hym hm0;go_wp2_with fail
  go_loopw [15] (fun kv wr=>∃ (k:Nat) (z:Nat->Rat),kv = .int .i64 (k:Int)/\i+1<=k/\k<=n/\XR wb.heap.size wr gx cX n z/\zAh n L z1 i k z/\SzA n (tri n+n+tri (n-(i+1))+(k-(i+1))) z/\Below wb.heap.size wb wr) (fun kv _=>n-(intOf kv).toNat)
  ·exact ⟨i+1,z,by go_num,lRx,hmn,HXR.out,HFW0.start,by rw [Nat.sub_self];exact HSZ0.out,HBI.out⟩
  clear HXR HFW0 HSZ0 HBI;obtain ⟨k,z,rfl,hik,hkn,hx,hfw,hsz,hbj⟩:=hrel;obtain ⟨wj,rfl⟩:=nWx wr
  by_cases hltk:k<n
  ·have hki:i<k:=by omega
   have hgB:=hx.lt.1;obtain ⟨ua,p0,p1,p2,p3,hfa⟩:=hx.at_ (i:=i) hlt;obtain ⟨ub,p4,p5,p6,p7,hfb⟩:=hx.at_ (i:=k) hltk;obtain ⟨gr,ro,rc,hgr,c1,d1⟩:=HGR.out k hltk;have q5:=(HX.below hbj).at_ (i:=0) rfl;have q1:=((HB.trans (hbj.mono HB.size)).cell (p:=⟨U,k,none⟩) hgU).trans c1;have q3:=((HB.trans (hbj.mono HB.size)).cell (p:=⟨gr,ro+i,none⟩) hgr).trans (d1 i hlt);have HR1:=oH (fun W hE=>zBl (L k i) W (HLF.fit k i hltk hlt) hE);have hsl:Sz 6 (L k i):=(HLD.out k i hltk hlt).szD;have hsk:=hsz k hltk;have hsi:=hsz i hlt;have hge:=gE_le (tri n+n+tri (n-(i+1))+(k-(i+1))) oMx;have HFW:=oH (hfw.step hki);have HSZ:=oH (hsz.sub (HLD.out k i hltk hlt) hlt hltk);have HST:=oH (fun W (hW:Below wj.heap.size wj W) (u:FrV) (hu:zCh W u.val (z i-L k i*z k))=>(hx.below hW).store hlt hu);have HFR:=oH (fun W (hW:Below wj.heap.size wj W) j=>(hx.below hW).fr j);have HBJ:=oH hbj;have HEJ:=oH (HE.below (HB.trans (hbj.mono HB.size)))
   generalize gE (tri n+n+tri (n-(i+1))+(k-(i+1)))=ge at *;obtain ⟨qi,hqi⟩:=eXx (z i);obtain ⟨qk,hqk⟩:=eXx (z k);obtain ⟨ql,hql⟩:=eXx (L k i);rw [hql] at HR1 hsl q3 HST HFW HSZ;rw [hqk] at hsk hfb HST HFW HSZ;rw [hqi] at hsi hfa HST HFW HSZ;obtain ⟨s1,hs1⟩:=eXx (zYy ql);rw [hs1] at HR1 q3;obtain ⟨a0,a1,a2,a3,a4,a5,a6,a7⟩:=ua;obtain ⟨b0,b1,b2,b3,b4,b5,b6,b7⟩:=ub;have KB:=oH (fun W' (hW:Below wj.heap.size wj W')=>(show W'.cell? ⟨gx,i*4,none⟩=some (.bool a0)/\W'.cell? ⟨gx,i*4+1,none⟩=some (.slice a1 a2 a3)/\W'.cell? ⟨gx,i*4+2,none⟩=some (.bool a4)/\W'.cell? ⟨gx,i*4+3,none⟩=some (.slice a5 a6 a7)/\W'.cell? ⟨gx,k*4,none⟩=some (.bool b0)/\W'.cell? ⟨gx,k*4+1,none⟩=some (.slice b1 b2 b3)/\W'.cell? ⟨gx,k*4+2,none⟩=some (.bool b4)/\W'.cell? ⟨gx,k*4+3,none⟩=some (.slice b5 b6 b7)/\W'.cell? ⟨xb,0,none⟩=some (.slice (some ⟨U,0,none⟩) n n)/\W'.cell? ⟨U,k,none⟩=some (.slice (some ⟨gr,ro,none⟩) n rc)/\W'.cell? ⟨gr,ro+i,none⟩=some (.string s1) from ⟨kP hW p0,kP hW p1,kP hW p2,kP hW p3,kP hW p4,kP hW p5,kP hW p6,kP hW p7,kP hW q5,kP hW q1,kP hW q3⟩))
   have HWz:=oH (show Below wj.heap.size wj wj.drew from bRx.drew);have KSz:=oH (KB.out _ HWz.out);have HXI:=oH (show zCh wj (.agg #[.bool a0,.slice a1 a2 a3,.bool a4,.slice a5 a6 a7]) qi from hfa);have HXK:=oH (show zCh wj (.agg #[.bool b0,.slice b1 b2 b3,.bool b4,.slice b5 b6 b7]) qk from hfb)
   have i1:(0:Int)<=(i:Int):=by omega
   have i2:(i:Int)<(n:Int):=by omega
   have k1:(0:Int)<=(k:Int):=by omega
   have k2:(k:Int)<(n:Int):=by omega
   clear hx hfw hsz hbj hfa hqi hql hs1 p0 p1 p2 p3 p4 p5 p6 p7 q5 q1 q3 hfb hqk c1 d1 hgr;go_wp2_with fail;refine xHt (S:=(fun w'=>w'.cell? ⟨gx,i*4,none⟩=some (.bool a0)/\w'.cell? ⟨gx,i*4+1,none⟩=some (.slice a1 a2 a3)/\w'.cell? ⟨gx,i*4+2,none⟩=some (.bool a4)/\w'.cell? ⟨gx,i*4+3,none⟩=some (.slice a5 a6 a7)/\w'.cell? ⟨gx,k*4,none⟩=some (.bool b0)/\w'.cell? ⟨gx,k*4+1,none⟩=some (.slice b1 b2 b3)/\w'.cell? ⟨gx,k*4+2,none⟩=some (.bool b4)/\w'.cell? ⟨gx,k*4+3,none⟩=some (.slice b5 b6 b7)/\w'.cell? ⟨xb,0,none⟩=some (.slice (some ⟨U,0,none⟩) n n)/\w'.cell? ⟨U,k,none⟩=some (.slice (some ⟨gr,ro,none⟩) n rc)/\w'.cell? ⟨gr,ro+i,none⟩=some (.string s1))) 22 (by kernel_rfl) rfl (by kernel_rfl) (by kernel_rfl) rfl (by exact KSz.out) (fun hHeld=>?_);simp only [List.pop_toArray,List.dropLast_cons_cons,List.dropLast_singleton];refine tkH 0 ?_;refine tkH 1 ?_;refine tkH 2 ?_;refine tkH 3 ?_;refine tkH 4 ?_
   refine tkH 5 ?_;refine tkH 6 ?_;refine tkH 7 ?_;refine tkH 8 ?_;refine tkH 9 ?_;refine tkH 10 ?_;refine tkH 11 ?_;refine tkH 12 ?_;refine tkH 13 ?_;refine tkH 15 ?_;refine tkH 16 ?_;refine tkH 17 ?_;refine tkH 18 ?_
   try simp only [Act.put,tkA,tkB,tkC]
   refine tkS 14 fun K hK=>?_
   go_simp
   (go_at_call 60;(with_reducible refine (HR1.out _ (HEJ.out.below HWz.out)).mono ?_);rintro e wa' ⟨va',rfl,hv,hb⟩;have hw:=HWz.out.trans (hb.mono HWz.out.size);have HWa':=oH hw;have HVa':=oH hv;obtain ⟨ra'0,ra'4,ra'1,ra'5,ra'2,ra'3,ra'6,ra'7,rfl⟩:=hv.slice;have KSa':=oH (KB.out wa' hw);clear hv hb hw)
   go_wp2_with fail;refine hK.out _ _ ?_ (fun hHeld=>?_)
   ·first|exact KSa'.out|exact KSb'.out|exact KSc'.out
   clear hK K
   try simp only [Act.put,tkA,tkB,tkC]
   refine tkS 19 fun K hK=>?_
   go_simp
   (go_at_call 73;(with_reducible refine (zBh _ _ ql qk _ HVa'.out (HXK.out.below HWa'.out) (hsl.mono dCx) (hsk.mono oMx)).mono ?_);rintro e wb' ⟨vb',rfl,hv,hb⟩;have hw:=HWa'.out.trans (hb.mono HWa'.out.size);have HWb':=oH hw;have HVb':=oH hv;obtain ⟨rb'0,rb'4,rb'1,rb'5,rb'2,rb'3,rb'6,rb'7,rfl⟩:=hv.slice;have KSb':=oH (KB.out wb' hw);clear hv hb hw)
   go_wp2_with fail;refine hK.out _ _ ?_ (fun hHeld=>?_)
   ·first|exact KSa'.out|exact KSb'.out|exact KSc'.out
   clear hK K
   try simp only [Act.put,tkA,tkB,tkC]
   refine tkS 20 fun K hK=>?_
   go_simp
   (go_at_call 90;(with_reducible refine (zBo _ _ qi (ql*qk) _ (HXI.out.below HWb'.out) HVb'.out (hsi.mono oMx) ((hsl.mul hsk).mono oMx)).mono ?_);rintro e wc' ⟨vc',rfl,hv,hb⟩;have hw:=HWb'.out.trans (hb.mono HWb'.out.size);have HWc':=oH hw;have HVc':=oH hv;obtain ⟨rc'0,rc'4,rc'1,rc'5,rc'2,rc'3,rc'6,rc'7,rfl⟩:=hv.slice;have KSc':=oH (KB.out wc' hw);clear hv hb hw)
   go_wp2_with fail;refine hK.out _ _ ?_ (fun hHeld=>?_)
   ·first|exact KSa'.out|exact KSb'.out|exact KSc'.out
   clear hK K
   try simp only [Act.put,tkA,tkB,tkC]
   refine tkH 21 ?_
   try simp only [Act.put,tkA,tkB,tkC]
   refine wpAnyH_done (by kernel_rfl) ?_ _;simp only [xEe,List.getElem_toArray,List.getElem_cons_succ,List.getElem_cons_zero];obtain ⟨d0,d1,d2,d3, -⟩:=KSc'.out;have f0:=HFR.out _ HWc'.out (i*4);have f1:=HFR.out _ HWc'.out (i*4+1);have f2:=HFR.out _ HWc'.out (i*4+2);have f3:=HFR.out _ HWc'.out (i*4+3);go_wp2_with fail;go_roundw
   ·exact ⟨k+1,_,by go_num,oMx,oMx,HST.out _ HWc'.out ⟨rc'0,rc'1,rc'2,rc'3,rc'4,rc'5,rc'6,rc'7⟩ HVc'.out,HFW.out,by rw [show k+1-(i+1)=k-(i+1)+1 by omega];exact HSZ.out,zIk (HBJ.trans (HWc'.mono HBJ.size)) hgB i ⟨rc'0,rc'1,rc'2,rc'3,rc'4,rc'5,rc'6,rc'7⟩⟩
   simp [intOf];omega
  have hke:k=n:=by omega
  rw [hke] at hfw hsz;have HXE:=oH hx;have HFE:=oH hfw.done
  have HSE:=oH (show SzA n (tri n+n+tri (n-i)) z by
   rw [show n-i=n-(i+1)+1 by omega,show tri (n-(i+1)+1)=tri (n-(i+1))+(n-(i+1)) from rfl,<-Nat.add_assoc]
   exact hsz)
  have HBE:=oH hbj;clear hx hfw hsz hbj hke;go_wp2_with fail;go_roundw
  ·exact ⟨(i:Int)-1,i,z,by go_num,rfl,oMx,HXE.out,HFE.out,HSE.out,HBE.out⟩
  simp [intOf]<;>omega
 have hme:m=0:=by omega
 have hfe:=HFW0.out;rw [hme] at hfe;have hsol:=sol_f HLW.out HD0.out HFE.out HDE.out hfe;have HSO:=oH hsol;have HFT:=oH (HFI.out z hsol);have hge:=gE_le (tri n+n+tri (n-m)) (by have:=xEs (show n-m<=n by omega);omega);have hsz2:=HSZ0.out;obtain ⟨us2,hul2,hown2,hfr2⟩:=HXR.out;have hlt2:=(hown2.lt gx rfl).2
 have HTX:=oH (zHc (some ⟨gx,0,none⟩) us2 ((List.range n).map z) cX wi (fun t ht=>by
  obtain ⟨e1,e2,e3,e4⟩:=zOd ht;refine ⟨gx,0,rfl,hlt2,?_,?_,?_,?_⟩
  ·rw [Nat.zero_add];exact (hown2.cellAt (t*4) oMx).trans e1
  ·rw [Nat.zero_add];exact (hown2.cellAt (t*4+1) oMx).trans e2
  ·rw [Nat.zero_add];exact (hown2.cellAt (t*4+2) oMx).trans e3
  ·rw [Nat.zero_add];exact (hown2.cellAt (t*4+3) oMx).trans e4) ⟨by rw [List.length_map,List.length_range];exact hul2,fun t h1 h2=>by rw [List.getElem_map,List.getElem_range];exact hfr2 t h1⟩ oMx (fun q hq=>by
  obtain ⟨t,ht,rfl⟩:=List.mem_map.1 hq
  exact (hsz2 t (List.mem_range.1 ht)).mono oMx) (HE.below (HB.trans (HBI.mono HB.size))))
 rw [hul2] at HTX;have HBE:=bTx2 HB HBI
 have hy0:¬(0:Int)<=y:=by omega
 clear hfe hsol hsz2 hge hown2 hfr2 hul2 hlt2 HXR HFW0 HSZ0 HBI hme hym hm0;go_wp2_with fail;refine HTX.mono ?_;rintro e we (⟨A9,c9,hall,rfl,hst,hb⟩|⟨⟨q,hq,hnf⟩, -⟩)
 ·have HR:=oH (show zGb w n z (.returned (.tuple #[.slice A9 n c9,.int .i64 0])) we from ⟨A9,c9,rfl,⟨((List.range n).map z).map zYy,hst,⟨by simp,fun t ht=>by simp,HFT.out⟩⟩,HBE.trans (hb.mono HBE.size)⟩);rw [show ((List.range n).map z).length=n by simp];clear hall hst hb HTX;go_wp2_with fail;rw [<-hQ.out];exact ⟨z,HSO.out,HR.out⟩
 obtain ⟨t,ht,rfl⟩:=List.mem_map.1 hq;exact absurd (HFT.out t (List.mem_range.1 ht)) hnf
end Go.Proofs.YtfjjcoggoomlbaaGreatDoor
