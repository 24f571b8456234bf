import Derived.Test.YtfjjcoggoomlbaaGreatDoorZND
set_option maxHeartbeats 16000000
set_option maxRecDepth 100000
set_option linter.unusedVariables false
set_option linter.unusedSimpArgs false
set_option linter.unusedSectionVars false
namespace Go.Proofs.YtfjjcoggoomlbaaGreatDoor
open Go.RowKit
structure zDi (B:Nat) (w:World) (rs:List zGk) (i:Nat):Prop where
 own:∀ j,(h:j<rs.length)->j<i->∃ g,rs[j].ad=some ⟨g,0,none⟩/\w.ownsRow B 39 1 (.slice (some ⟨g,0,none⟩) rs[j].ss.length rs[j].cp) rs[j].ss.length (sv rs[j].ss)
 dis:∀ j k,(h:j<rs.length)->(h':k<rs.length)->j<k->k<i->rs[j].ad≠rs[k].ad
section
variable {B i:Nat} {w w':World} {rs:List zGk}
theorem zDi.below (h:zDi B w rs i) (hb:Below w.heap.size w w'):zDi B w' rs i :=
 ⟨fun j hj hji=>by
  obtain ⟨g,e,h1⟩:=h.own j hj hji
  exact ⟨g,e,zVn h1 hb⟩,h.dis⟩
theorem zDi.far (h:zDi B w rs i) {b:Nat} (hb:∀ j,(hj:j<rs.length)->j<i->rs[j].ad≠some ⟨b,0,none⟩) (o:Nat) (x:Value):zDi B (w.setCell ⟨b,o,none⟩ x) rs i :=
 ⟨fun j hj hji=>by
  obtain ⟨g,e,h1⟩:=h.own j hj hji;refine ⟨g,e,h1.kept (zOo b o x) (.inr ?_)⟩
  intro e2
  have e3:g=b:=by injection e2
  exact hb j hj hji (by rw [e,e3]),h.dis⟩
theorem zDi.not_top (h:zDi B w rs i) {U n c:Nat} {vs:List Value} (hU:w.ownsRow B 29 1 (.slice (some ⟨U,0,none⟩) n c) n vs):∀ j,(hj:j<rs.length)->j<i->rs[j].ad≠some ⟨U,0,none⟩:=fun j hj hji e=>by
 obtain ⟨g,e1,h1⟩:=h.own j hj hji;rw [e] at e1;injection e1 with e1;injection e1 with e1;exact zVq h1 hU dCx (show Value.ownBlock _=some U from rfl) (by rw [e1];rfl)
end
theorem zOv (i k:Nat):zBt (idn i k):=by
 unfold idn
 split
 ·exact ⟨zNq dCx,zNq dCx⟩
 exact fits0
def RetMo (w:World) (m n:Nat) (M:mRx) (e:Ending) (w':World):Prop :=
 (∃ U rs,e = .returned (.tuple #[.slice (some ⟨U,0,none⟩) m m,.int .i64 0])/\zCy rs m n M/\zHg w.heap.size w' (.slice (some ⟨U,0,none⟩) m m) rs/\zDi w.heap.size w' rs m/\Below w.heap.size w w') \/
 ((∃ i k,i<m/\k<n/\¬zBt (M i k))/\e = .returned (.tuple #[.slice none 0 0,.int .i64 3])/\Below w.heap.size w w')
structure zAe (B:Nat) (W0 wr:World) (U m n:Nat) (M:mRx) (i:Nat) (rs:List zGk):Prop extends BuiA B W0 wr U m n M i rs where
 ot:zDi B wr rs i
structure zAg (B:Nat) (W0 wr:World) (U m n:Nat) (M:mRx) (i k:Nat) (rs:List zGk) (g cp:Nat) (ts:List ByteArray):Prop extends BuiB B W0 wr U m n M i k rs g cp ts where
 ot:zDi B wr rs i
section
variable {B U m n i k g cp:Nat} {W0 wr w':World} {M:mRx} {rs:List zGk} {ts:List ByteArray}
theorem zAe.start (w:World) (m n:Nat) (M:mRx) (hm:m<=1000000):zAe w.heap.size w (w.alloc (.cells (zYr (List.replicate m (zGk.mk none 0 []))).toArray 29)) w.heap.size m n M 0 (List.replicate m (zGk.mk none 0 [])) :=
 ⟨BuiA.start w m n M hm,⟨fun j _ h=>absurd h oMx,fun j k _ _ _ h=>absurd h oMx⟩⟩
theorem zAe.row_ (h:zAe B W0 wr U m n M i rs) (hi:i<m) (hn:n<=1000000):zAg B W0 ((wr.alloc (.cells (sv (List.replicate n ⟨#[]⟩)).toArray 39)).setCell ⟨U,i,none⟩ (.slice (some ⟨wr.heap.size,0,none⟩) n n)) U m n M i 0 rs wr.heap.size n (List.replicate n ⟨#[]⟩):=by
 refine ⟨h.toBuiA.row_ hi hn,?_⟩;have h1:=h.ot.below ((Below.refl wr.heap.size wr).alloc lRx (.cells (sv (List.replicate n ⟨#[]⟩)).toArray 39));exact h1.far (h.ot.not_top h.top.o) _ _
theorem zAg.below (h:zAg B W0 wr U m n M i k rs g cp ts) (hb:Below wr.heap.size wr w'):zAg B W0 w' U m n M i k rs g cp ts :=
 ⟨h.toBuiB.below hb,h.ot.below hb⟩
theorem zAg.put (h:zAg B W0 wr U m n M i k rs g cp ts) (hf:zBt (M i k)):zAg B W0 (wr.setCell ⟨g,k,none⟩ (.string (zYy (M i k)))) U m n M i (k+1) rs g cp (ts.set k (zYy (M i k))) :=
 ⟨h.toBuiB.put hf,h.ot.far (fun j hj hji=>(h.up.oth j hj oMx).2 0 none) _ _⟩
theorem zAg.next (h:zAg B W0 wr U m n M i k rs g cp ts) (hk:n<=k):zAe B W0 wr U m n M (i+1) (rs.set i ⟨some ⟨g,0,none⟩,cp,ts⟩):=by
 refine ⟨h.toBuiB.next hk,⟨fun j hj hji=>?_,fun j k' hj hk' hjk hki=>?_⟩⟩
 ·have hj':j<rs.length:=by simpa using hj
  by_cases e:j=i
  ·subst e;simp only [List.getElem_set_self];exact ⟨g,rfl,h.up.row⟩
  simp only [List.getElem_set_ne (Ne.symm e)];exact h.ot.own j hj' oMx
 have hj':j<rs.length:=by simpa using hj
 have hk2:k'<rs.length:=by simpa using hk'
 have e1:j≠i:=by omega
 rw [List.getElem_set_ne (Ne.symm e1)]
 by_cases e:k'=i
 ·subst e;rw [List.getElem_set_self];exact (h.up.oth j hj' e1).2 0 none
 rw [List.getElem_set_ne (Ne.symm e)];exact h.ot.dis j k' hj' hk2 hjk oMx
theorem zAe.done (h:zAe B W0 wr U m n M i rs) (hi:m<=i):zCy rs m n M/\zHg B wr (.slice (some ⟨U,0,none⟩) m m) rs/\zDi B wr rs m :=
 ⟨(h.toBuiA.done hi).1,(h.toBuiA.done hi).2,⟨fun j hj hji=>h.ot.own j hj oMx,fun j k hj hk hjk hkm=>h.ot.dis j k hj hk hjk oMx⟩⟩
end
theorem BuildIdO (m n:Nat) (M:mRx) (w:World) (hm:m<=12) (hn:n<=12) (hs:∀ i k,i<m->k<n->Sz 5000000 (M i k)) (henv:Env w)
  (hc:∀ W,Below w.heap.size w W->∀ i k,i<m->k<n->Calls Tryz.prog 113 #[.int .i64 (i:Int),.int .i64 (k:Int)] W (zFr W (M i k))) :
  Calls Tryz.prog 112 #[.int .i64 (m:Int),.int .i64 (n:Int),(.func (.func 113) #[] #[])] w (RetMo w m n M):=by
 have hmk:=xAa m oMx;have hmk2:=xAb n oMx;generalize hQ:RetMo w m n M=Q;replace hQ:=oH hQ;have HS:=oH hs;have HE:=oH henv;have HC:=oH hc;clear hs henv hc
 go_enter Tryz.func112,Tryz.ntmps112
 go_wp2_with fail;have HA0:=oH (zAe.start w m n M oMx);generalize (w.alloc (.cells (zYr (List.replicate m (zGk.mk none 0 []))).toArray 29))=W1 at *;generalize hU:w.heap.size=U at *;replace hU:=oH hU
 go_loopw [17] (fun iv wr=>∃ (i:Nat) (rs:List zGk),iv = .int .i64 (i:Int)/\i<=m/\zAe w.heap.size w wr U m n M i rs) (fun iv _=>m-(intOf iv).toNat)
 ·exact ⟨0,_,rfl,oLx,by have:=HA0.out;rw [hU.out];exact this⟩
 obtain ⟨i,rs,rfl,hi,hba⟩:=hrel;have HBA:=oH hba;have hml:=hba.len;clear HA0 hmk
 by_cases hlt:i<m
 ·have i1:(0:Int)<=(i:Int):=by omega
  have i2:(i:Int)<(m:Int):=by omega
  have f0:=(hba.top.alloc (.cells (sv (List.replicate n ⟨#[]⟩)).toArray 39)).top (i:=i) oMx;have HBB:=oH (hba.row_ hlt oMx);obtain ⟨f0a,f0b⟩:=f0;have HBm:=oH hba.bel;clear hba;go_wp2_with fail;generalize ((wr.alloc (.cells (sv (List.replicate n ⟨#[]⟩)).toArray 39)).setCell ⟨U,i,none⟩ (.slice (some ⟨wr.heap.size,0,none⟩) n n))=W2 at *;generalize wr.heap.size=g0 at *;clear f0a f0b HBA HBm
  go_loopw [30] (fun kv wk=>∃ (k:Nat) (ts:List ByteArray),kv = .int .i64 (k:Int)/\k<=n/\zAg w.heap.size w wk U m n M i k rs g0 n ts) (fun kv _=>n-(intOf kv).toNat)
  ·exact ⟨0,_,rfl,oLx,HBB.out⟩
  clear HBB;obtain ⟨k,ts,rfl,hk,hbb⟩:=hrel;obtain ⟨wk,rfl⟩:=nWx wr;have HBK:=oH hbb
  by_cases hlt2:k<n
  ·have HCC:=oH (HC.out wk (by have:=hbb.up.bel;rw [hU.out] at this;exact this) i k hlt hlt2);have HFT:=oH (fun (V:Value) (W:World) (hV:zCh W V (M i k)) (hE:Env W)=>zBf V (M i k) W hV (HS.out i k hlt hlt2) hE);have HPT:=oH (fun (W:World) (h:zAg w.heap.size w W U m n M i k rs g0 n ts) (hf:zBt (M i k))=>h.put hf);have HNO:=oH (fun (hf:¬zBt (M i k)) (W:World) (hb:Below w.heap.size w W)=>(show RetMo w m n M (.returned (.tuple #[.slice none 0 0,.int .i64 3])) W from .inr ⟨⟨i,k,hlt,hlt2,hf⟩,rfl,hb⟩));generalize M i k=q at *;clear hbb;go_wp2_with fail;refine HCC.mono ?_;rintro e w5 ⟨v,rfl,hv,hb5⟩;have HB5:=oH (HBK.below hb5);have HV5:=oH hv;clear hv hb5;go_wp2_with fail;refine (HFT.out v w5 HV5.out (HE.below HB5.up.bel)).mono ?_;rintro e w6 ⟨rfl,hb6⟩;have HB6:=oH (HB5.below hb6);clear hb6
   by_cases hfit:zBt q
   ·rw [zVg hfit,zVe hfit];obtain ⟨c0,f0,f1,c1⟩:=HB6.top;replace c1:=c1 (by rw [HB6.tl];exact hlt2);generalize hto:ts[k]'(by rw [HB6.tl];exact hlt2)=told at *;clear hto;have HB7:=oH (HPT.out w6 HB6.out hfit)
    have k1:(0:Int)<=(k:Int):=by omega
    have k2:(k:Int)<(n:Int):=by omega
    generalize zYy q=s at *;clear hfit;go_wp2_with fail;go_roundw
    ·exact ⟨k+1,_,by go_num,oMx,HB7.out⟩
    simp [intOf];omega
   rw [zVh hfit,zVf hfit];have HR:=oH (HNO.out hfit w6 HB6.up.bel);clear hfit;go_wp2_with fail;rw [<-hQ.out];exact HR.out
  have HN:=oH (hbb.next oMx);clear hbb;go_wp2_with fail;go_roundw
  ·exact ⟨i+1,_,by go_num,oMx,HN.out⟩
  simp [intOf];omega
 obtain ⟨hmf,htp,hot⟩:=hba.done oMx;have HR:=oH (show RetMo w m n M (.returned (.tuple #[.slice (some ⟨U,0,none⟩) m m,.int .i64 0])) wr from .inl ⟨_,rs,rfl,hmf,htp,hot,hba.bel⟩);clear hba hmf htp;go_wp2_with fail;rw [<-hQ.out];exact HR.out
theorem zCd (n:Nat) (w:World) (hn:n<=12) (henv:Env w):Calls Tryz.prog 51 #[.int .i64 (n:Int)] w fun e w'=>∃ U rs,e = .returned (.tuple #[.slice (some ⟨U,0,none⟩) n n,.int .i64 0])/\zCy rs n n idn/\zHg w.heap.size w' (.slice (some ⟨U,0,none⟩) n n) rs/\zDi w.heap.size w' rs n/\Below w.heap.size w w':=by
 have HBI:=oH (BuildIdO n n idn w hn hn (fun i k _ _=>by unfold idn;split;exact Sz.of1;exact Sz.zero.mono dCx) henv (fun W _ i k _ _=>cloId i k W))
 have h1:¬(n:Int)<0:=by omega
 have h2:¬(12:Int)<(n:Int):=by omega
 clear henv
 go_enter Tryz.func51,Tryz.ntmps51
 go_wp2_with fail;refine HBI.mono ?_;rintro e w3 (⟨U,rs,rfl,r1,r2,r3,r4⟩|⟨⟨i,k,hi,hk,h9⟩,rfl,h8⟩)
 ·have HR1:=oH r1;have HR2:=oH r2;have HR3:=oH r3;have HR4:=oH r4;clear r1 r2 r3 r4;go_wp2_with fail;go_ret2
  exact ⟨U,rs,rfl,HR1.out,HR2.out,HR3.out,HR4.out⟩
 exact absurd (zOv i k) h9
theorem zWa {w:World} {B e s n g:Nat} {V:Value} {vs:List Value} (h:w.ownsRow B e s V n vs) (hg:V.ownBlock=some g):zCe w g e/\B<=g:=by
 rcases h.2 with ⟨h1,_⟩|⟨g',cap,cur,hv,hB,hc,_⟩
 ·rw [h1] at hg;cases hg
 rw [hv] at hg;injection hg with hg;subst hg;exact ⟨⟨cur,hc⟩,hB⟩
theorem zAb.grown {w w':World} {g:Nat} {t:TypeId} {cs:List Value} {row:Option Nat} (h:zAb w g t cs) (hg:w.grownBy w' row) (hne:row≠some g):zAb w' g t cs:=h.same (hg.block g h.ty.lt fun e=>hne e.symm)
theorem zAb.put {w:World} {g:Nat} {t:TypeId} {cs:List Value} {i:Nat} {v:Value} (h:zAb w g t cs) (hi:cs[i]? = some v) (u:Value):zAb (w.setCell ⟨g,i,none⟩ u) g t (cs.set i u):=by
 refine ⟨h.ty.set _ _ _,fun j x hj=>?_⟩
 by_cases e:j=i
 ·subst e;have hl:j<cs.length:=(List.getElem?_eq_some_iff.1 hi).1;rw [List.getElem?_set_self hl] at hj;injection hj with hj;subst hj;exact World.cell?_setCell_same' _ _ _ (by rw [h.cel j v hi];rfl)
 rw [List.getElem?_set_ne (Ne.symm e)] at hj;rw [World.cell?_setCell_other _ _ _ _ (by simp [Ne.symm e,e])];exact h.cel j x hj
theorem zDi.grown {B i:Nat} {w w':World} {rs:List zGk} {row:Option Nat} (h:zDi B w rs i) (hg:w.grownBy w' row) (hne:∀ j,(hj:j<rs.length)->j<i->∀ g,rs[j].ad=some ⟨g,0,none⟩->some g≠row):zDi B w' rs i :=
 ⟨fun j hj hji=>by
  obtain ⟨g,e,h1⟩:=h.own j hj hji
  exact ⟨g,e,h1.kept hg (.inr (hne j hj hji g e))⟩,h.dis⟩
theorem zDi.mono {B B' i:Nat} {w:World} {rs:List zGk} (h:zDi B w rs i) (hb:B'<=B):zDi B' w rs i :=
 ⟨fun j hj hji=>by
  obtain ⟨g,e,h1⟩:=h.own j hj hji
  exact ⟨g,e,zVm h1 hb⟩,h.dis⟩
theorem NoU.alloc' {w:World} {v:Value} (h:NoU w v) (hlt:∀ k,v.ownBlock=some k->k<w.heap.size) {w':World} (hb:Below w.heap.size w w'):NoU w' v:=fun g cs t fr hv hc=>by
 refine h g cs t fr hv ?_;rw [<-hb.block g (hlt g hv)];exact hc
structure zBz (B n c:Nat) (M:mRx) (U:Nat) (rs:List zGk) (W:World):Prop where
 mf:zCy rs n n M
 top:W.ownsRow B 29 1 (.slice (some ⟨U,0,none⟩) n c) n (zYr rs)
 ot:zDi B W rs n
section
variable {B n c:Nat} {M M':mRx} {U:Nat} {rs:List zGk} {W W':World}
theorem zBz.congr (h:zBz B n c M U rs W) (e:∀ i k,i<n->k<n->M i k=M' i k):zBz B n c M' U rs W:={ h with mf:=h.mf.congr e }
theorem zBz.below (h:zBz B n c M U rs W) (hb:Below W.heap.size W W'):zBz B n c M U rs W':=⟨h.mf,zVn h.top hb,h.ot.below hb⟩
theorem zBz.mono {B':Nat} (h:zBz B n c M U rs W) (hb:B'<=B):zBz B' n c M U rs W:=⟨h.mf,zVm h.top hb,h.ot.mono hb⟩
theorem zBz.grown {row:Option Nat} (h:zBz B n c M U rs W) (hg:W.grownBy W' row) (hU:some U≠row) (hr:∀ j,(hj:j<rs.length)->∀ g,rs[j].ad=some ⟨g,0,none⟩->some g≠row):zBz B n c M U rs W' :=
 ⟨h.mf,h.top.kept hg (.inr hU),h.ot.grown hg fun j hj _ g e=>hr j hj g e⟩
theorem zBz.topM (h:zBz B n c M U rs W):zHg B W (.slice (some ⟨U,0,none⟩) n c) rs:=by
 have hl:=h.mf.len;refine ⟨by rw [hl];exact h.top,fun r hr=>?_⟩;obtain ⟨i,hi,rfl⟩:=List.getElem_of_mem hr;obtain ⟨g,e,h1⟩:=h.ot.own i hi oMx;rw [e];exact zGi.of_own h1
theorem zBz.ty (h:zBz B n c M U rs W):zCe W U 29:=(zWa h.top rfl).1
theorem zBz.rows (h:zBz B n c M U rs W) {i:Nat} (hi:i<rs.length):∃ g,rs[i].ad=some ⟨g,0,none⟩/\W.cell? ⟨U,i,none⟩=some (.slice (some ⟨g,0,none⟩) n rs[i].cp)/\(∀ k,k<n->W.frozen? ⟨g,k,none⟩=false/\W.cell? ⟨g,k,none⟩=some (.string (zYy (M i k))))/\g≠U/\zCe W g 39:=by
 have hlen:=h.mf.len;have hrl:=h.mf.rowAt hi;obtain ⟨g,e,h1⟩:=h.ot.own i hi oMx;have hgt:=zVz h1;refine ⟨g,e,?_,fun k hk=>⟨h1.frozenAt k,?_⟩,hgt.ne h.ty dCx,hgt⟩
 ·rw [h.top.cellAt i oMx,zYs hi,e,hrl]
 rw [h1.cellAt k oMx,xDx oMx,h.mf.cel i k hi oMx]
theorem zBz.far (h:zBz B n c M U rs W) {g:Nat} {ty:TypeId} (hg:zCe W g ty) (n6:39≠ty) (n7:29≠ty) (j:Nat) (u:Value):zBz B n c M U rs (W.setCell ⟨g,j,none⟩ u) :=
 h.grown (zOo g j u) (fun e=>by injection e with e;subst e;exact h.ty.ne hg n7 rfl) fun i hi g' e e2=>by
  injection e2 with e2;subst e2;obtain ⟨g2,e1, -, -, -,h2⟩:=h.rows hi;rw [e] at e1;injection e1 with e1;injection e1 with e1;subst e1;exact h2.ne hg n6 rfl
theorem zBz.put (h:zBz B n c M U rs W) {i k g:Nat} (hi:i<rs.length) (hk:k<n) (hg:rs[i].ad=some ⟨g,0,none⟩) {q:Rat} (hq:zBt q) :
  zBz B n c (fun a b=>if a=i/\b=k then q else M a b) U (rs.set i ⟨some ⟨g,0,none⟩,rs[i].cp,rs[i].ss.set k (zYy q)⟩) (W.setCell ⟨g,k,none⟩ (.string (zYy q)))/\∀ j,(hj:j<rs.length)->((rs.set i ⟨some ⟨g,0,none⟩,rs[i].cp,rs[i].ss.set k (zYy q)⟩)[j]'(by rw [List.length_set];exact hj)).ad=rs[j].ad:=by
 have hlen:=h.mf.len;have hrl:=h.mf.rowAt hi;obtain ⟨g',e1,h1⟩:=h.ot.own i hi oMx;rw [hg] at e1;injection e1 with e1;injection e1 with e1;subst e1;have hgt:=zVz h1
 have hkl:k<rs[i].ss.length:=by omega
 have hto:Value.ownBlock (.slice (some ⟨U,0,none⟩) n c)≠some g:=fun e=>(zWa h.top e).1.ne hgt dCx rfl
 have hst1:=(h1.stored k (.string (zYy q))).1;rw [<-sv_set] at hst1
 have ead:∀ x,(hx:x<rs.length)->((rs.set i ⟨some ⟨g,0,none⟩,rs[i].cp,rs[i].ss.set k (zYy q)⟩)[x]'(by rw [List.length_set];exact hx)).ad=rs[x].ad:=fun x hx=>by
  by_cases e:x=i
  ·subst e;rw [List.getElem_set_self];exact hg.symm
  rw [List.getElem_set_ne (Ne.symm e)]
 refine ⟨⟨⟨?_,fun r hr=>?_,fun a b ha hb=>?_,fun a b ha hb=>?_⟩,?_,⟨fun j hj hjn=>?_,fun j j' hj hj' hjj hjn=>?_⟩⟩,ead⟩
 ·rw [List.length_set];exact hlen
 ·rcases List.mem_or_eq_of_mem_set hr with h2|rfl
  ·exact h.mf.row r h2
  show (rs[i].ss.set k (zYy q)).length=n
  rw [List.length_set];exact hrl
 ·have ha':a<rs.length:=by simpa using ha
  by_cases e:a=i
  ·subst e;simp only [List.getElem_set_self]
   by_cases e3:b=k
   ·subst e3;rw [List.getElem_set_self,if_pos sMx]
   rw [List.getElem_set_ne (Ne.symm e3),if_neg oMx];exact h.mf.cel a b ha' (by simpa using hb)
  simp only [List.getElem_set_ne (Ne.symm e)];rw [if_neg oMx];exact h.mf.cel a b ha' (by simpa [List.getElem_set_ne (Ne.symm e)] using hb)
 ·show zBt (if a=i/\b=k then q else M a b)
  split
  ·exact hq
  exact h.mf.fit a b ha hb
 ·have e3:zYr (rs.set i ⟨some ⟨g,0,none⟩,rs[i].cp,rs[i].ss.set k (zYy q)⟩)=zYr rs:=by
   rw [zYu];simp only [List.length_set];rw [<-hg]
   apply List.ext_getElem?
   intro j
   by_cases e:j=i
   ·subst e;rw [List.getElem?_set_self (by rw [zYt];exact hi),zYs hi]
   rw [List.getElem?_set_ne (Ne.symm e)]
  rw [e3];exact h.top.kept (zOo g k _) (.inr hto)
 ·have hj':j<rs.length:=by simpa using hj
  by_cases e:j=i
  ·subst e;simp only [List.getElem_set_self];exact ⟨g,rfl,by simpa using hst1⟩
  simp only [List.getElem_set_ne (Ne.symm e)];obtain ⟨g2,e2,h2⟩:=h.ot.own j hj' hjn;refine ⟨g2,e2,h2.kept (zOo g k _) (.inr fun e4=>?_)⟩;injection e4 with e4;subst e4
  rcases Nat.lt_or_ge j i with h5|h5
  ·exact h.ot.dis j i hj' hi h5 oMx (by rw [e2,hg])
  exact h.ot.dis i j hi hj' oMx hjn (by rw [e2,hg])
 have hj1:j<rs.length:=by simpa using hj
 have hj2:j'<rs.length:=by simpa using hj'
 rw [ead j hj1,ead j' hj2];exact h.ot.dis j j' hj1 hj2 hjj hjn
end
noncomputable def dTx (A:mRx) (k:Nat):List Value:=sv ((List.range k).map fun t=>zYy (dD A t))
structure zAt (B fb tb ab pb qb n:Nat) (AV T2:Value) (dv:zDf) (D:Int) (A:mRx) (kd:Nat) (M:mRx) (U:Nat) (Dv:Value) (rs:List zGk) (W:World):Prop where
 f:zAb W fb 31 [.slice (some ⟨U,0,none⟩) n n,Dv]
 t:zAb W tb 86 [.bool dv.nb,.slice dv.ad dv.l dv.c,T2]
 a:zAb W ab 27 [AV]
 p:zAb W pb 90 [.func (.func 53) #[] #[.pointer (some ⟨qb,0,none⟩)]]
 q:zAb W qb 32 [.int .i64 0]
 den:zCk W dv.val D
 dro:W.ownsRow B 39 1 Dv kd (dTx A kd)
 dno:NoU W Dv
 gr:zBz B n n M U rs W
 dr:∀ j,(hj:j<rs.length)->∀ g,rs[j].ad=some ⟨g,0,none⟩->some g≠Dv.ownBlock
 fB:B<=fb
section
variable {B fb tb ab pb qb n:Nat} {AV T2:Value} {dv:zDf} {D:Int} {A:mRx} {kd:Nat} {M M':mRx} {U:Nat} {Dv:Value} {rs:List zGk} {W W':World}
theorem zAt.congr (h:zAt B fb tb ab pb qb n AV T2 dv D A kd M U Dv rs W) (e:∀ i k,i<n->k<n->M i k=M' i k):zAt B fb tb ab pb qb n AV T2 dv D A kd M' U Dv rs W:={ h with gr:=h.gr.congr e }
theorem zAt.below (h:zAt B fb tb ab pb qb n AV T2 dv D A kd M U Dv rs W) (hb:Below W.heap.size W W'):zAt B fb tb ab pb qb n AV T2 dv D A kd M U Dv rs W' :=
 ⟨h.f.below hb,h.t.below hb,h.a.below hb,h.p.below hb,h.q.below hb,h.den.below hb,zVn h.dro hb,h.dno.alloc' (fun k e=>(zWa h.dro e).1.lt) hb,h.gr.below hb,h.dr,h.fB⟩
theorem zAt.far (h:zAt B fb tb ab pb qb n AV T2 dv D A kd M U Dv rs W) {g:Nat} {ty:TypeId} (hg:zCe W g ty) (n1:31≠ty) (n2:86≠ty) (n3:27≠ty) (n4:90≠ty) (n5:32≠ty) (n6:39≠ty) (n7:29≠ty) {j:Nat} {v:Value} (hc:W.cell? ⟨g,j,none⟩=some v) (hv:∀ z,v ≠ .int .u64 z) (u:Value) :
  zAt B fb tb ab pb qb n AV T2 dv D A kd M U Dv rs (W.setCell ⟨g,j,none⟩ u):=by
 have hro:Dv.ownBlock≠some g:=fun e=>(zWa h.dro e).1.ne hg n6 rfl
 exact ⟨h.f.far (p:=⟨g,j,none⟩) (h.f.ty.ne hg n1) _,h.t.far (p:=⟨g,j,none⟩) (h.t.ty.ne hg n2) _,h.a.far (p:=⟨g,j,none⟩) (h.a.ty.ne hg n3) _,h.p.far (p:=⟨g,j,none⟩) (h.p.ty.ne hg n4) _,h.q.far (p:=⟨g,j,none⟩) (h.q.ty.ne hg n5) _,h.den.over hc hv u,h.dro.kept (zOo g j u) (.inr hro),h.dno.kept (zOo g j u) (fun k e=>(zWa h.dro e).1.lt) (.inr hro),h.gr.far hg n6 n7 j u,h.dr,h.fB⟩
theorem zAt.appD (h:zAt B fb tb ab pb qb n AV T2 dv D A kd M U Dv rs W) {Dv':Value} (ho:W'.ownsRow B 39 1 Dv' (kd+1) (dTx A kd++[.string (zYy (dD A kd))])) (hg:W.grownBy W' Dv.ownBlock) (hn:NoU W' Dv') (hd:Dv.ownBlock=Dv'.ownBlock\/Dv'.ownBlock=some W.heap.size) :
  zAt B fb tb ab pb qb n AV T2 dv D A (kd+1) M U Dv' rs (W'.setCell ⟨fb,1,none⟩ Dv')/\zGm B W (W'.setCell ⟨fb,1,none⟩ Dv'):=by
 have hf1:Dv.ownBlock≠some fb:=fun e=>(zWa h.dro e).1.ne h.f.ty dCx rfl
 have ne:∀ {g:Nat} {ty:TypeId},zCe W g ty->39≠ty->Dv.ownBlock≠some g:=fun hg hne e=>(zWa h.dro e).1.ne hg hne rfl
 have F:=h.f.grown hg (ne h.f.ty dCx);have T:=h.t.grown hg (ne h.t.ty dCx);have Aa:=h.a.grown hg (ne h.a.ty dCx);have Pp:=h.p.grown hg (ne h.p.ty dCx);have Q:=h.q.grown hg (ne h.q.ty dCx);have GR:=h.gr.grown hg (fun e=>ne h.gr.ty dCx e.symm) h.dr;have DEN:=h.den.clean h.dno hg
 have hro:Dv'.ownBlock≠some fb:=fun e=>(zWa ho e).1.ne F.ty dCx rfl
 have c1:=F.cel 1 Dv rfl
 have hDvN:∀ z,Dv ≠ .int .u64 z:=fun z e=>by
  rcases h.dro.2 with ⟨e1,_⟩|⟨g',cap,cur,e1,_⟩<;>(rw [e1] at e;cases e)
 have F2:zAb (W'.setCell ⟨fb,1,none⟩ Dv') fb 31 [.slice (some ⟨U,0,none⟩) n n,Dv']:=F.put (i:=1) (v:=Dv) rfl Dv';have hs:=hg.size;refine ⟨⟨F2,T.far (p:=⟨fb,1,none⟩) (T.ty.ne F.ty dCx) _,Aa.far (p:=⟨fb,1,none⟩) (Aa.ty.ne F.ty dCx) _,Pp.far (p:=⟨fb,1,none⟩) (Pp.ty.ne F.ty dCx) _,Q.far (p:=⟨fb,1,none⟩) (Q.ty.ne F.ty dCx) _,DEN.over c1 hDvN _,?_,hn.kept (zOo fb 1 _) (fun k e=>(zWa ho e).1.lt) (.inr hro),GR.far F.ty dCx dCx _ _,fun j hj g e=>?_,h.fB⟩,⟨?_,fun g t hgt ht=>?_,fun v z hv=>(hv.clean h.dno hg).over c1 hDvN _⟩⟩
 ·have:=ho.kept (zOo fb 1 Dv') (.inr hro);unfold dTx at this ⊢;rw [List.range_succ,List.map_append,xDw];exact this
 ·rcases hd with h1|h1
  ·rw [<-h1];exact h.dr j hj g e
  rw [h1]
  intro e2
  injection e2 with e2;obtain ⟨g',e3,h3⟩:=h.gr.ot.own j hj (by have:=h.gr.mf.len;omega);rw [e] at e3;injection e3 with e3;injection e3 with e3;have:=(zVz h3).lt;omega
 ·refine Below.setCell ?_ (p:=⟨fb,1,none⟩) h.fB _;exact (Below.refl B W).grown hg (by have:=h.f.ty.lt;have:=h.fB;omega) (fun g e=>(zWa h.dro e).2)
 have hne:g≠fb:=by
  intro e
  subst e
  have:t=31:=Classical.byContradiction fun h9=>hgt.ne h.f.ty h9 rfl
  subst this;exact absurd ht dCx
 rw [Below.heap_setCell _ ⟨fb,1,none⟩ _ g hne]
 refine hg.block g hgt.lt fun e=>?_
 have h8:=(zWa h.dro e.symm).1
 have:t=39:=Classical.byContradiction fun h9=>hgt.ne h8 h9 rfl
 subst this;exact absurd ht dCx
theorem zAt.putL (h:zAt B fb tb ab pb qb n AV T2 dv D A kd M U Dv rs W) {i k g:Nat} (hi:i<rs.length) (hk:k<n) (hg:rs[i].ad=some ⟨g,0,none⟩) {q:Rat} (hq:zBt q) :
  zAt B fb tb ab pb qb n AV T2 dv D A kd (fun a b=>if a=i/\b=k then q else M a b) U Dv (rs.set i ⟨some ⟨g,0,none⟩,rs[i].cp,rs[i].ss.set k (zYy q)⟩) (W.setCell ⟨g,k,none⟩ (.string (zYy q)))/\zGm B W (W.setCell ⟨g,k,none⟩ (.string (zYy q))):=by
 obtain ⟨g',e1, -,hc, -,hgt⟩:=h.gr.rows hi;rw [hg] at e1;injection e1 with e1;injection e1 with e1;subst e1;have c1:=(hc k hk).2
 have hst:∀ z,(Value.string (zYy (M i k))) ≠ .int .u64 z:=fun z e=>by cases e
 have hro:Dv.ownBlock≠some g:=fun e=>h.dr i hi g hg e.symm
 have hgB:B<=g:=by
  obtain ⟨g2,e2,h2⟩:=h.gr.ot.own i hi (by have:=h.gr.mf.len;omega);rw [hg] at e2;injection e2 with e2;injection e2 with e2;subst e2;exact (zWa h2 rfl).2
 obtain ⟨hp,had⟩:=h.gr.put hi hk hg hq;refine ⟨⟨h.f.far (p:=⟨g,k,none⟩) (h.f.ty.ne hgt dCx) _,h.t.far (p:=⟨g,k,none⟩) (h.t.ty.ne hgt dCx) _,h.a.far (p:=⟨g,k,none⟩) (h.a.ty.ne hgt dCx) _,h.p.far (p:=⟨g,k,none⟩) (h.p.ty.ne hgt dCx) _,h.q.far (p:=⟨g,k,none⟩) (h.q.ty.ne hgt dCx) _,h.den.over c1 hst _,h.dro.kept (zOo g k _) (.inr hro),h.dno.kept (zOo g k _) (fun x e=>(zWa h.dro e).1.lt) (.inr hro),hp,fun j hj g2 e2=>?_,h.fB⟩,⟨(Below.refl B W).setCell (p:=⟨g,k,none⟩) hgB _,fun g2 t hg2 ht=>?_,fun v z hv=>hv.over c1 hst _⟩⟩
 ·have hj1:j<rs.length:=by simpa using hj
  rw [had j hj1] at e2;exact h.dr j hj1 g2 e2
 have hne:g2≠g:=by
  intro e
  subst e
  have:t=39:=Classical.byContradiction fun h9=>hg2.ne hgt h9 rfl
  subst this;exact absurd ht dCx
 exact Below.heap_setCell _ ⟨g,k,none⟩ _ g2 hne
end
theorem zPp (q:Rat) (v:Value) (qb:Nat) (w:World) (h:zCh w v q) (hf:zBt q) (henv:Env w):Calls Tryz.prog 53 #[v,.pointer (some ⟨qb,0,none⟩)] w fun e w'=>e = .returned (.string (zYy q))/\Below w.heap.size w w':=by
 obtain ⟨na,nb,A1,A2,l1,c1,l2,c2,rfl⟩:=h.slice;have hbl:Below w.heap.size w (w.alloc (.cells #[.bool na,.slice A1 l1 c1,.bool nb,.slice A2 l2 c2] 89)):=bA;have hk:=Blk.new w 89 [.bool na,.slice A1 l1 c1,.bool nb,.slice A2 l2 c2];have c0:=hk.at_ (i:=0) rfl;have c1':=hk.at_ (i:=1) rfl;have c2':=hk.at_ (i:=2) rfl;have c3:=hk.at_ (i:=3) rfl;have HFT:=oH (zBf _ q _ (h.below hbl) (hf.sz.mono dCx) (henv.below hbl));rw [zVg hf,zVe hf] at HFT;have HB:=oH hbl;clear h henv hbl hk hf
 go_enter Tryz.func53,Tryz.ntmps53
 go_wp2_with fail;refine HFT.mono ?_;rintro e w2 ⟨rfl,hb2⟩;have HB2:=bTx2 HB hb2;obtain ⟨s,hs⟩:=eXx (zYy q);rw [hs];have HSS:=oH hs;clear hb2 c0 c1' c2' c3 hs;go_wp2_with fail;go_ret
 exact ⟨by rw [HSS.out];rfl,HB2.out⟩
theorem strz_no:∀ x∈(Value.string ⟨#[]⟩).cells,∀ y,x ≠ .int .u64 y:=fun x hx y e=>by
 have h9:x = .string ⟨#[]⟩:=by simpa [Value.cells] using hx
 rw [h9] at e;cases e
theorem str_no {s:ByteArray}:∀ x∈[Value.string s],∀ y,x ≠ .int .u64 y:=fun x hx y e=>by
 rw [List.mem_singleton.1 hx] at e;cases e
section
variable {B fb tb ab pb qb n:Nat} {AV T2:Value} {dv:zDf} {D:Int} {A:mRx} {kd:Nat} {M M':mRx} {U:Nat} {Dv:Value} {rs:List zGk} {W W':World}
theorem zAt.nf (h:zAt B fb tb ab pb qb n AV T2 dv D A kd M U Dv rs W):Dv.ownBlock≠some fb:=fun e=>(zWa h.dro e).1.ne h.f.ty dCx rfl
theorem zAt.ne {g:Nat} {t:TypeId} (h:zAt B fb tb ab pb qb n AV T2 dv D A kd M U Dv rs W) (hg:zCe W g t) (ht:39≠t):Dv.ownBlock≠some g:=fun e=>(zWa h.dro e).1.ne hg ht rfl
end
def lQ (A:mRx) (k i:Nat):Nat->Nat->Rat:=fun a b=>if b<a/\(b<k\/b=k/\a<i) then lL A a b else idn a b
theorem lQ_start (A:mRx) (k:Nat):lQ A k (k+1)=lK A k:=by
 funext a b
 unfold lQ lK
 by_cases h:b<k/\b<a
 ·rw [if_pos h,if_pos oMx]
 rw [if_neg h,if_neg oMx]
theorem lQ_end (A:mRx) (k n:Nat):∀ a b,a<n->b<n->lQ A k n a b=lK A (k+1) a b:=fun a b ha _=>by
 unfold lQ lK
 by_cases h:b<k+1/\b<a
 ·rw [if_pos h,if_pos oMx]
 rw [if_neg h,if_neg oMx]
theorem lQ_step (A:mRx) (k i:Nat) (hi:k<i):(fun a b=>if a=i/\b=k then lL A i k else lQ A k i a b)=lQ A k (i+1):=by
 funext a b
 unfold lQ
 by_cases h:a=i/\b=k
 ·obtain ⟨rfl,rfl⟩:=h;rw [if_pos ⟨rfl,rfl⟩,if_pos oMx]
 rw [if_neg h]
 by_cases h2:b<a/\(b<k\/b=k/\a<i)
 ·rw [if_pos h2,if_pos oMx]
 rw [if_neg h2,if_neg oMx]
theorem Dec2_any {B fb tb ab pb qb n k mb kb R cR ca:Nat} {Aa:oAx} {T2:Value} {dv pv uv:zDf} {D p b:Int} {A:mRx} {P:Nat->Nat->Int} {U:Nat} {Dv:Value} {rs:List zGk} {rows:List zGj} {wB W:World}
  (hB:B=wB.heap.size) (hbel:Below B wB W) (henv:Env wB) (hn:n<=12) (hk:k<n) (hd:zAt B fb tb ab pb qb n (.slice Aa n ca) T2 dv D A k (lK A k) U Dv rs W)
  (hp:zCk W pv.val p) (hu:zCk W uv.val b) (hT:zHa B W (.slice (some ⟨R,0,none⟩) rows.length cR) rows n P) (hrl:rows.length=n) (hm:W.cell? ⟨mb,0,none⟩=some (.slice (some ⟨R,0,none⟩) n cR)) (hkb:W.cell? ⟨kb,0,none⟩=some (.int .i64 (k:Int))) (hmt:zCe W mb 84) (hkt:zCe W kb 3)
  (hp0:p≠0) (hb0:b≠0) (hD0:D≠0) (hlp:LL p<=300000) (hlb:LL b<=300000) (hlD:LL D<=300000) (hlP:∀ i,k<i->i<n->LL (P i k)<=300000)
  (eD:Rat.divInt p (b*D)=dD A k) (eL:∀ i,k<i->i<n->Rat.divInt (P i k) p=lL A i k) (fD:zBt (dD A k)) (fL:∀ i,k<i->i<n->zBt (lL A i k)) :
  Calls Tryz.prog 56 #[.int .i64 (k:Int),.agg #[.bool pv.nb,.slice pv.ad pv.l pv.c],.agg #[.bool uv.nb,.slice uv.ad uv.l uv.c],.func (.func 121) #[] #[.pointer (some ⟨mb,0,none⟩),.pointer (some ⟨kb,0,none⟩)],.pointer (some ⟨fb,0,none⟩),.pointer (some ⟨pb,0,none⟩),.pointer (some ⟨tb,0,none⟩),.pointer (some ⟨ab,0,none⟩)] W
   fun e W'=>e = .returned (.tuple #[])/\(∃ Dv' rs',zAt B fb tb ab pb qb n (.slice Aa n ca) T2 dv D A (k+1) (lK A (k+1)) U Dv' rs' W')/\zGm B W W':=by
 obtain ⟨j0,hj,hy0,hy1,hy2⟩:=info_parts Tryz.infoRat;have hBs:B<=W.heap.size:=Nat.le_trans (Nat.le_of_eq hB) hbel.size;have hb1:Below W.heap.size W (W.alloc (.cells #[.bool pv.nb,.slice pv.ad pv.l pv.c] 83)):=bA;have hb2:Below W.heap.size W ((W.alloc (.cells #[.bool pv.nb,.slice pv.ad pv.l pv.c] 83)).alloc (.cells #[.bool uv.nb,.slice uv.ad uv.l uv.c] 83)):=hb1.alloc hb1.size _;have hx:=(Blk.new W 83 [.bool pv.nb,.slice pv.ad pv.l pv.c]).alloc (.cells #[.bool uv.nb,.slice uv.ad uv.l uv.c] 83);have hy:=Blk.new' (w:=W.alloc (.cells #[.bool pv.nb,.slice pv.ad pv.l pv.c] 83)) (g:=W.heap.size+1) sMx 83 [.bool uv.nb,.slice uv.ad uv.l uv.c];have HX:=oH hx;have HY:=oH hy;have HS1:=oH (zGm.of hb2 hBs);have HD1:=oH (hd.below hb2);have HP1:=oH (show zCk _ (.agg #[.bool pv.nb,.slice pv.ad pv.l pv.c]) p from hp.below hb2);have HU1:=oH (show zCk _ (.agg #[.bool uv.nb,.slice uv.ad uv.l uv.c]) b from hu.below hb2)
 have HT1:=oH (hT.below hb2);have HM1:=oH (kP hb2 hm);have HK1:=oH (kP hb2 hkb);have HMT:=oH (hmt.below hb2);have HKT:=oH (hkt.below hb2);have HE0:=oH (fun W' (hW:Below B wB W')=>(show Env W' from henv.below (by rw [<-hB];exact hW)));have HBel1:=oH (hbel.trans (hb2.mono hBs));have HED:=oH eD;have HEL0:=oH eL;have HFL:=oH fL;have HLP:=oH hlP;have HRL:=oH hrl;have HFQ0:=oH fD;have HBD:=oH (Int.mul_ne_zero hb0 hD0);have hbD:=zCo b D;unfold LL at hlp hlb hlD hbD;clear hb1 hx hy hd hp hu hT hm hkb hmt hkt henv eD eL fD fL hlP hrl hbel
 go_enter Tryz.func56,Tryz.ntmps56
 go_upto_region 1 with (fail);have HBS:=oH (show B<=((W.alloc (.cells #[.bool pv.nb,.slice pv.ad pv.l pv.c] 83)).alloc (.cells #[.bool uv.nb,.slice uv.ad uv.l uv.c] 83)).heap.size from Nat.le_trans hBs hb2.size);clear hb2;generalize ((W.alloc (.cells #[.bool pv.nb,.slice pv.ad pv.l pv.c] 83)).alloc (.cells #[.bool uv.nb,.slice uv.ad uv.l uv.c] 83))=W1 at *;have HX2:=oH (show zCe W1 W.heap.size 83 from HX.ty);generalize W.heap.size=x at *;have HDN1:=oH (show zCk W1 (.agg #[.bool dv.nb,.slice dv.ad dv.l dv.c]) D from HD1.den);have HE1:=oH (HE0.out W1 HBel1.out);have KB:=oH (fun W' (hW:Below W1.heap.size W1 W')=>(show W'.cell? ⟨fb,1,none⟩=some (Dv)/\W'.cell? ⟨pb,0,none⟩=some (.func (.func 53) #[] #[.pointer (some ⟨qb,0,none⟩)])/\W'.cell? ⟨x,0,none⟩=some (.bool pv.nb)/\W'.cell? ⟨x,1,none⟩=some (.slice pv.ad pv.l pv.c)/\W'.cell? ⟨x+1,0,none⟩=some (.bool uv.nb)/\W'.cell? ⟨x+1,1,none⟩=some (.slice uv.ad uv.l uv.c)/\W'.cell? ⟨tb,0,none⟩=some (.bool dv.nb)/\W'.cell? ⟨tb,1,none⟩=some (.slice dv.ad dv.l dv.c) from ⟨(HD1.f.below hW).cel 1 _ rfl,(HD1.p.below hW).cel 0 _ rfl,(HX.below hW).at_ (i:=0) rfl,(HX.below hW).at_ (i:=1) rfl,(HY.below hW).at_ (i:=0) rfl,(HY.below hW).at_ (i:=1) rfl,(HD1.t.below hW).cel 0 _ rfl,(HD1.t.below hW).cel 1 _ rfl⟩))
 have KB2:=oH (fun Wm W' (hW:Below W1.heap.size W1 Wm) (hg:Wm.grownBy W' Dv.ownBlock)=>(show W'.cell? ⟨fb,1,none⟩=some (Dv)/\W'.cell? ⟨pb,0,none⟩=some (.func (.func 53) #[] #[.pointer (some ⟨qb,0,none⟩)])/\W'.cell? ⟨x,0,none⟩=some (.bool pv.nb)/\W'.cell? ⟨x,1,none⟩=some (.slice pv.ad pv.l pv.c)/\W'.cell? ⟨x+1,0,none⟩=some (.bool uv.nb)/\W'.cell? ⟨x+1,1,none⟩=some (.slice uv.ad uv.l uv.c)/\W'.cell? ⟨tb,0,none⟩=some (.bool dv.nb)/\W'.cell? ⟨tb,1,none⟩=some (.slice dv.ad dv.l dv.c) from by
  have hd:=HD1.below hW;have hX:=(HX.below hW).boxT;have hY:=(HY.below hW).boxT;have F:=hd.f.grown hg hd.nf;have Pp:=hd.p.grown hg (hd.ne hd.p.ty dCx);have Tt:=hd.t.grown hg (hd.ne hd.t.ty dCx);have X:=hX.grown hg (hd.ne hX.ty dCx);have Y:=hY.grown hg (hd.ne hY.ty dCx)
  exact ⟨F.cel 1 _ rfl,Pp.cel 0 _ rfl,X.cel 0 _ rfl,X.cel 1 _ rfl,Y.cel 0 _ rfl,Y.cel 1 _ rfl,Tt.cel 0 _ rfl,Tt.cel 1 _ rfl⟩))
 have HWz:=oH (show Below W1.heap.size W1 W1.drew from bRx.drew);have KSz:=oH (KB.out _ HWz.out);obtain ⟨q,hq⟩:=eXx (dD A k);have HQE:=oH hq;have HFQ:=oH (show zBt q by rw [<-hq];exact HFQ0.out);rw [hq] at HED;have HX3:=oH (show zAb W1 x 83 [.bool pv.nb,.slice pv.ad pv.l pv.c] from HX.boxT);clear hq HX HY;refine xHt (S:=(fun w'=>w'.cell? ⟨fb,1,none⟩=some (Dv)/\w'.cell? ⟨pb,0,none⟩=some (.func (.func 53) #[] #[.pointer (some ⟨qb,0,none⟩)])/\w'.cell? ⟨x,0,none⟩=some (.bool pv.nb)/\w'.cell? ⟨x,1,none⟩=some (.slice pv.ad pv.l pv.c)/\w'.cell? ⟨x+1,0,none⟩=some (.bool uv.nb)/\w'.cell? ⟨x+1,1,none⟩=some (.slice uv.ad uv.l uv.c)/\w'.cell? ⟨tb,0,none⟩=some (.bool dv.nb)/\w'.cell? ⟨tb,1,none⟩=some (.slice dv.ad dv.l dv.c))) 13 (by kernel_rfl) rfl (by kernel_rfl) (by kernel_rfl) rfl (by exact KSz.out) (fun hHeld=>?_);simp only [List.pop_toArray,List.dropLast_cons_cons,List.dropLast_singleton];refine tkH 0 ?_
 refine tkH 1 ?_;refine tkH 2 ?_;refine tkH 3 ?_;refine tkH 4 ?_;refine tkH 5 ?_;refine tkH 6 ?_
 try simp only [Act.put,tkA,tkB,tkC]
 refine tkS 7 fun K hK=>?_
 go_simp
 (go_at_call 58;(with_reducible refine (zDb _ _ b D _ (HU1.out.below HWz.out) (HDN1.out.below HWz.out) oMx oMx).mono ?_);rintro e wa ⟨va,rfl,hv,hb⟩;have hw:Below W1.heap.size W1 wa:=HWz.out.trans (hb.mono HWz.out.size);have HWa:=oH hw;have HVa:=oH hv;obtain ⟨xa,Xa,ya,za,rfl⟩:=hv.slice;clear hv;have KSa:=oH (KB.out wa hw);clear hb hw)
 go_wp2_with fail;refine hK.out _ _ ?_ (fun hHeld=>?_)
 ·exact kSx
 clear hK K
 try simp only [Act.put,tkA,tkB,tkC]
 refine tkS 8 fun K hK=>?_
 go_simp
 (go_at_call 57;(with_reducible refine (zDe _ _ p (b*D) _ (HP1.out.below HWa.out) HVa.out oMx oMx HBD.out).mono ?_);rintro e wb ⟨vb,rfl,hv,hb⟩;have hw:Below W1.heap.size W1 wb:=HWa.out.trans (hb.mono HWa.out.size);have HWb:=oH hw;rw [HED.out] at hv;have HVb:=oH hv;obtain ⟨ax,bx,Ax,Bx,lx,cx,mx,dx,rfl⟩:=hv.slice;clear hv;have KSb:=oH (KB.out wb hw);clear hb hw)
 go_wp2_with fail;refine hK.out _ _ ?_ (fun hHeld=>?_)
 ·exact kSx
 clear hK K
 try simp only [Act.put,tkA,tkB,tkC]
 refine tkS 9 fun K hK=>?_
 go_simp
 (go_at_call 53;(with_reducible refine (zPp q _ qb _ HVb.out HFQ.out (HE1.out.below HWb.out)).mono ?_);rintro e wc ⟨rfl,hb⟩;have hw:Below W1.heap.size W1 wc:=HWb.out.trans (hb.mono HWb.out.size);have HWc:=oH hw;  have KSc:=oH (KB.out wc hw);clear hb hw)
 go_wp2_with fail;refine hK.out _ _ ?_ (fun hHeld=>?_)
 ·exact kSx
 clear hK K
 try simp only [Act.put,tkA,tkB,tkC]
 refine tkS 10 fun K hK=>?_
 go_simp
 have HWm:=oH (HWc.alloc HWc.size (.cells #[.string (zYy q)] 39));have KSm:=oH (KB.out _ HWm.out);have HDm:=oH (HD1.below HWm.out)
 refine hK.out _ _ ?_ (fun hHeld=>?_)
 ·exact kSx
 clear hK K
 try simp only [Act.put,tkA,tkB,tkC]
 refine tkS 11 fun K hK=>?_
 (refine xCk _ (by rfl) _ _ _ (by rfl) B 39 j0 (.string ⟨#[]⟩) 1 16 Tryz.underlying29 hj hy0 hy1 hy2 rfl dCx Dv k (dTx A k) (by go_simp) HDm.dro ⟨wc.heap.size,0,none⟩ 1 1 [.string (zYy q)] (by go_simp) rfl (World.news_of_block (cs:=#[.string (zYy q)]) (t:=39) (fr:=(0,0)) (heap_alloc_new wc _)) zUx oMx (by unfold maxLen;omega) oMx (by have:=HWm.size;have:=HBS.out;omega) HDm.dno strz_no str_no ?_;intro g2 cap2 w12 hown hgrow hno hgg;have HAP:=oH (HDm.appD (Dv' := .slice (some ⟨g2,0,none⟩) (k+1) cap2) (by rw [HQE.out];exact hown) hgrow hno (hgg.imp id (congrArg some)));have KSa2:=oH (KB2.out _ w12 HWm.out hgrow);have HFB:=oH ((HDm.f.grown hgrow (HDm.nf)).cel 1 _ rfl);have HFF:=oH ((HDm.f.grown hgrow (HDm.nf)).ty.fr 1);clear hown hgrow hno hgg)
 refine hK.out _ _ ?_ (fun hHeld=>?_)
 ·exact kSx
 clear hK K
 try simp only [Act.put,tkA,tkB,tkC]
 refine tkH 12 ?_
 try simp only [Act.put,tkA,tkB,tkC]
 refine wpAnyH_done (by kernel_rfl) ?_ _;simp only [xEe,List.getElem_toArray,List.getElem_cons_succ,List.getElem_cons_zero];obtain ⟨HD2',HS2'⟩:=HAP.out;have HD2:=oH HD2';have HS2:=oH (HS1.trans ((zGm.of HWm.out HBS.out).trans HS2'));have HSS:=oH ((zGm.of HWm.out HBS.out).trans HS2');have fB:=HFB.out;have fF:=HFF.out;clear HD2' HS2' HAP;go_wp2_with fail;clear fB fF KSz KSa KSb KSc KSm KSa2 KB KB2;generalize (w12.setCell ⟨fb,1,none⟩ (.slice (some ⟨g2,0,none⟩) (k+1) cap2))=W2 at *;have HPV:=oH (HSS.num _ _ HP1.out);have HXB:=oH (HX3.see HSS.out dCx);have HT2:=oH (HT1.see HSS.out);have HM2:=oH ((World.cell?_of_block (w:=W1) (a:=⟨mb,0,none⟩) (HSS.blk mb _ HMT.out dCx)).trans HM1.out);have HK2:=oH ((World.cell?_of_block (w:=W1) (a:=⟨kb,0,none⟩) (HSS.blk kb _ HKT.out dCx)).trans HK1.out);have HMT2:=oH (HMT.same (HSS.blk mb _ HMT.out dCx));have HKT2:=oH (HKT.same (HSS.blk kb _ HKT.out dCx));have HBel2:=oH (HBel1.trans HSS.bel)
 clear HP1 HU1 HT1 HM1 HK1 HMT HKT HBel1 HD1 HDm HS1 HSS HWz HWa HWb HWc HWm HVa HVb HX2 HX3 HE1 HDN1 HFB HFF
 go_loopw [12] (fun iv wr=>∃ (i:Nat) (ri:List zGk),iv = .int .i64 (i:Int)/\k<i/\i<=n/\zAt B fb tb ab pb qb n (.slice Aa n ca) T2 dv D A (k+1) (lQ A k i) U (.slice (some ⟨g2,0,none⟩) (k+1) cap2) ri wr/\zGm B W2 wr) (fun iv _=>n-(intOf iv).toNat)
 ·exact ⟨k+1,rs,by go_num,oMx,oMx,by rw [lQ_start];exact HD2.out,⟨bRx,fun _ _ _ _=>rfl,fun _ _ h=>h⟩⟩
 obtain ⟨i,ri,rfl,hki,hin,hdi,hsi⟩:=hrel;obtain ⟨wi,rfl⟩:=nWx wr;have HDi:=oH hdi;have HSi:=oH hsi;have c0:=hdi.a.cel 0 _ rfl;clear HD2
 by_cases hlt:i<n
 ·have hir:i<ri.length:=by have:=hdi.gr.mf.len;omega
  obtain ⟨g,hga,hU,hcl, -, -⟩:=hdi.gr.rows hir;obtain ⟨cg,hcg⟩:=eXx (ri[i].cp);rw [hcg] at hU;have hPi:=hsi.num _ _ HPV.out;have HPi:=oH (show zCk wi (.agg #[.bool pv.nb,.slice pv.ad pv.l pv.c]) p from hPi);have hxb:=HXB.see hsi dCx
  have HCO:=oH (fun W' (hW:Below wi.heap.size wi W')=>Col_any mb kb R cR n i k B rows P W' ((HT2.see hsi).below hW) HRL.out
   ((hW.cell (World.block_lt_of_cell? _ _ ((World.cell?_of_block (w:=W2) (a:=⟨mb,0,none⟩) (hsi.blk mb _ HMT2.out dCx)).trans HM2.out))).trans ((World.cell?_of_block (w:=W2) (a:=⟨mb,0,none⟩) (hsi.blk mb _ HMT2.out dCx)).trans HM2.out))
   ((hW.cell (World.block_lt_of_cell? _ _ ((World.cell?_of_block (w:=W2) (a:=⟨kb,0,none⟩) (hsi.blk kb _ HKT2.out dCx)).trans HK2.out))).trans ((World.cell?_of_block (w:=W2) (a:=⟨kb,0,none⟩) (hsi.blk kb _ HKT2.out dCx)).trans HK2.out)) hlt hk)
  have hBel:=HBel2.trans hsi.bel;have HEi:=oH (HE0.out wi hBel);have HGA:=oH hga;have KB:=oH (fun W' (hW:Below wi.heap.size wi W')=>(show W'.cell? ⟨fb,0,none⟩=some (.slice (some ⟨U,0,none⟩) n n)/\W'.cell? ⟨U,i,none⟩=some (.slice (some ⟨g,0,none⟩) n cg)/\W'.cell? ⟨pb,0,none⟩=some (.func (.func 53) #[] #[.pointer (some ⟨qb,0,none⟩)])/\W'.cell? ⟨x,0,none⟩=some (.bool pv.nb)/\W'.cell? ⟨x,1,none⟩=some (.slice pv.ad pv.l pv.c) from ⟨(hdi.f.below hW).cel 0 _ rfl,kP hW hU,(hdi.p.below hW).cel 0 _ rfl,(hxb.below hW).cel 0 _ rfl,(hxb.below hW).cel 1 _ rfl⟩))
  have HFi:=oH (fun W' (hW:Below wi.heap.size wi W')=>(show W'.cell? ⟨g,k,none⟩=some (.string (zYy (lQ A k i i k)))/\W'.frozen? ⟨g,k,none⟩=false from by
   obtain ⟨g',e1, -,h2, -, -⟩:=(hdi.below hW).gr.rows hir;rw [hga] at e1;injection e1 with e1;injection e1 with e1;subst e1
   exact ⟨(h2 k hk).2,(h2 k hk).1⟩))
  have HWz:=oH (show Below wi.heap.size wi wi.drew from bRx.drew);have KSz:=oH (KB.out _ HWz.out);have HPU:=oH (fun W' (hW:Below wi.heap.size wi W') (q:Rat) (hq:zBt q)=>(hdi.below hW).putL hir hk hga hq)
  have i1:(0:Int)<=(i:Int):=by omega
  have i2:(i:Int)<(n:Int):=by omega
  have k1:(0:Int)<=(k:Int):=by omega
  have k2:(k:Int)<(n:Int):=by omega
  have hz:=HLP.out i hki hlt;have HEL:=oH (HEL0.out i hki hlt);have HFQ:=oH (HFL.out i hki hlt);obtain ⟨z,hzz⟩:=eXx (P i k);obtain ⟨q,hq⟩:=eXx (lL A i k);have HQL:=oH hq;rw [hzz] at HCO HEL hz;rw [hq] at HEL HFQ;unfold LL at hz;generalize zYy (lQ A k i i k)=s0 at *;have HBW:=oH (Nat.le_trans HBS.out lRx);have HBI:=oH (show B<=wi.heap.size from Nat.le_trans (Nat.le_of_eq hB) hBel.size);clear hdi hsi hga hU hcl hcg hPi hxb hBel hzz hq HBW;go_wp2_with fail;clear c0;refine xHt (S:=(fun w'=>w'.cell? ⟨fb,0,none⟩=some (.slice (some ⟨U,0,none⟩) n n)/\w'.cell? ⟨U,i,none⟩=some (.slice (some ⟨g,0,none⟩) n cg)/\w'.cell? ⟨pb,0,none⟩=some (.func (.func 53) #[] #[.pointer (some ⟨qb,0,none⟩)])/\w'.cell? ⟨x,0,none⟩=some (.bool pv.nb)/\w'.cell? ⟨x,1,none⟩=some (.slice pv.ad pv.l pv.c))) 14 (by kernel_rfl) rfl (by kernel_rfl) (by kernel_rfl) rfl (by exact KSz.out) (fun hHeld=>?_);simp only [List.pop_toArray,List.dropLast_cons_cons,List.dropLast_singleton]
  refine tkH 0 ?_;refine tkH 1 ?_;refine tkH 2 ?_;refine tkH 3 ?_;refine tkH 4 ?_;refine tkH 5 ?_;refine tkH 6 ?_;refine tkH 7 ?_;refine tkH 8 ?_;refine tkH 10 ?_
  try simp only [Act.put,tkA,tkB,tkC]
  refine tkS 9 fun K hK=>?_
  go_simp
  (go_at_call 121;(with_reducible refine (HCO.out _ HWz.out).mono ?_);rintro e wa ⟨va,rfl,hv,hb⟩;have hw:Below wi.heap.size wi wa:=HWz.out.trans (hb.mono HWz.out.size);have HWa:=oH hw;have HVa:=oH hv;obtain ⟨xa,Xa,ya,za,rfl⟩:=hv.slice;clear hv;have KSa:=oH (KB.out wa hw);clear hb hw)
  go_wp2_with fail;refine hK.out _ _ ?_ (fun hHeld=>?_)
  ·exact kSx
  clear hK K
  try simp only [Act.put,tkA,tkB,tkC]
  refine tkS 11 fun K hK=>?_
  go_simp
  (go_at_call 57;(with_reducible refine (zDe _ _ z p _ HVa.out (HPi.out.below HWa.out) oMx oMx hp0).mono ?_);rintro e wb ⟨vb,rfl,hv,hb⟩;have hw:Below wi.heap.size wi wb:=HWa.out.trans (hb.mono HWa.out.size);have HWb:=oH hw;rw [HEL.out] at hv;have HVb:=oH hv;obtain ⟨ax,bx,Ax,Bx,lx,cx,mx,dx,rfl⟩:=hv.slice;clear hv;have KSb:=oH (KB.out wb hw);clear hb hw)
  go_wp2_with fail;refine hK.out _ _ ?_ (fun hHeld=>?_)
  ·exact kSx
  clear hK K
  try simp only [Act.put,tkA,tkB,tkC]
  refine tkS 12 fun K hK=>?_
  go_simp
  (go_at_call 53;(with_reducible refine (zPp q _ qb _ HVb.out HFQ.out (HEi.out.below HWb.out)).mono ?_);rintro e wc ⟨rfl,hb⟩;have hw:Below wi.heap.size wi wc:=HWb.out.trans (hb.mono HWb.out.size);have HWc:=oH hw;have HDc:=oH (HDi.out.below hw);have HFc:=oH (HFi.out wc hw);have KSc:=oH (KB.out wc hw);clear hb hw)
  go_wp2_with fail;refine hK.out _ _ ?_ (fun hHeld=>?_)
  ·exact kSx
  clear hK K
  try simp only [Act.put,tkA,tkB,tkC]
  refine tkH 13 ?_
  try simp only [Act.put,tkA,tkB,tkC]
  refine wpAnyH_done (by kernel_rfl) ?_ _;simp only [xEe,List.getElem_toArray,List.getElem_cons_succ,List.getElem_cons_zero];obtain ⟨d0,d1⟩:=HFc.out;have HQF:=oH (HPU.out wc HWc.out q HFQ.out);go_wp2_with fail;go_roundw
  case rel =>
   obtain ⟨p1,p2⟩:=HQF.out
   have e9:(fun a b=>if a=i/\b=k then q else lQ A k i a b)=lQ A k (i+1):=by
    rw [<-HQL.out];exact lQ_step A k i hki
   rw [e9] at p1;exact ⟨i+1,_,by go_num,oMx,oMx,p1,HSi.trans ((zGm.of HWc.out HBI.out).trans p2)⟩
  simp [intOf];omega
 have hin2:i=n:=by omega
 have HDF:=oH (HDi.congr (M':=lK A (k+1)) fun a b ha hb=>by rw [hin2];exact lQ_end A k n a b ha hb);have HSF:=oH (HS2.trans HSi.out);clear hdi hsi hin2;go_wp2_with fail;refine bodyPost_end (v := .tuple #[]) (by simp [results,Tryz.results56,go_sem]) rfl ?_;exact ⟨rfl,⟨_,_,HDF.out⟩,HSF.out⟩
end Go.Proofs.YtfjjcoggoomlbaaGreatDoor
