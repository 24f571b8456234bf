import Derived.Test.YtafflnognagadaaGreatDoorZOC
import Derived.Deep.CutBlock
set_option maxHeartbeats 16000000
set_option maxRecDepth 100000
set_option linter.unusedVariables false
set_option linter.unusedSimpArgs false
set_option linter.unusedSectionVars false
namespace Go.Proofs.YtafflnognagadaaGreatDoor
open Go.RowKit
section
variable {α:Type} {K:Kind α} {B g c n i:Nat} {w:World} {A:oAx} {xs:List α}
theorem zMh {k:Nat}:∀ {css:List (List Value)} (m:Nat),(∀ cs∈css,cs.length=k)->(css.drop m).flatten=css.flatten.drop (m*k)
 | css,0,_=>by simp
 | [],m+1,_=>by simp
 | cs::css,m+1,h=>by
  rw [List.drop_succ_cons,zMh m fun x hx=>h x (by simp [hx]),List.flatten_cons,Nat.succ_mul,Nat.add_comm,<-List.drop_drop,<-h cs sMx,List.drop_left' rfl]
theorem zMn {k:Nat}:∀ {css:List (List Value)} (m:Nat),(∀ cs∈css,cs.length=k)->(css.take m).flatten=css.flatten.take (m*k)
 | css,0,_=>by simp
 | [],m+1,_=>by simp
 | cs::css,m+1,h=>by
  rw [List.take_succ_cons,List.flatten_cons,zMn m fun x hx=>h x (by simp [hx]),List.flatten_cons,Nat.succ_mul,Nat.add_comm,<-h cs sMx,List.take_length_add_append]
theorem zCo.take_ (h:zCo K B w (.slice A n c) xs) (hi:i<=xs.length):zCo K B w (.slice A i c) (xs.take i):=by
 obtain ⟨css,ha,h1,h2⟩:=h;refine ⟨css.take i,ha.take i,?_,?_⟩
 ·rw [zMn i ha.lens,List.length_take,List.length_take,h1,Nat.min_eq_left hi,Nat.min_eq_left (Nat.mul_le_mul_right _ hi)]
 rcases h2 with ⟨hv,h2⟩|⟨g,cap,cur,hv,hB,hg,hle,hm,hs,htake⟩
 ·injection hv with e1 e2 e3;subst e1 e3
  obtain rfl:i=0:=by omega
  exact .inl ⟨rfl,by simp⟩
 injection hv with e1 e2 e3;subst e1 e3;refine .inr ⟨g,_,cur,by rw [List.length_take,Nat.min_eq_left hi],hB,hg,by rw [List.length_take];omega,hm,hs,?_⟩;rw [List.length_take,Nat.min_eq_left hi,zMn i ha.lens,<-htake,List.take_take,Nat.min_eq_left (Nat.mul_le_mul_right _ hi)]
theorem Sl.sliced (h:Sl K w (.slice A n c) xs) (hi:i<=xs.length):Sl K w (.slice (if c=i then A else A.map (·.add (i*K.k))) (xs.length-i) (c-i)) (xs.drop i):=by
 by_cases hn:xs.length=i
 ·subst hn;rw [Nat.sub_self,List.drop_length];exact .nil _ _ _ _
 have hc:¬c=i:=by
  obtain ⟨A',c',css,e,hc, -⟩:=h;injection e with e1 e2 e3;omega
 rw [if_neg hc]
 rcases A with _|⟨b,off,s⟩
 ·obtain ⟨A',c',css,e,hc,ha,hr⟩:=h;injection e with e1 e2 e3;subst e1
  have hf:css.flatten=[]:=by
   refine Classical.byContradiction fun h0=>?_
   obtain ⟨b,off,arr,fr,e, -⟩:=hr h0
   cases e
  have h1:=(show ARow w K.t (none:oAx) css.flatten from hr);refine ⟨_,_,css.drop i,by rw [List.length_drop],by rw [List.length_drop];omega,ha.drop i,?_⟩;rw [zMh i ha.lens,hf]
  simp [ARow]
 obtain ⟨A',c',css,e,hc,ha,hr⟩:=h;injection e with e1 e2 e3;subst e1 e2 e3;refine ⟨_,_,css.drop i,by rw [List.length_drop],by rw [List.length_drop];omega,ha.drop i,?_⟩;rw [zMh i ha.lens]
 intro h0
 have h2:css.flatten≠[]:=fun e=>h0 (by rw [e];simp)
 obtain ⟨b',off',arr,fr,e,h3,h4⟩:=hr h2;injection e with e;injection e with e1 e2 e3;subst e1 e2 e3;refine ⟨b,off+i*K.k,arr,fr,by simp [Addr.add_lit],h3,fun j u hu=>?_⟩;rw [Nat.add_assoc];exact h4 _ _ (by rw [<-hu,List.getElem?_drop])
theorem zCo.new {arr:Array Value} {x:α} (hg:w.heap.size=g) (hB:B<=g) (hE:K.E w arr.toList x):zCo K B (w.alloc (.cells arr K.t)) (.slice (some ⟨g,0,none⟩) 1 1) [x]:=by
 subst hg;have hk:KpT [] w (w.alloc (.cells arr K.t)) := .alloc _ _ _;have hl:=K.len hE;refine ⟨[arr.toList],.one (K.kp hE hk fun _ _=>by simp),by simp [hl],.inr ⟨w.heap.size,1,arr,rfl,hB,heap_alloc_new w _,lRx,dCx,by simpa using hl,?_⟩⟩;rw [List.flatten_singleton,<-hl,List.length_singleton,Nat.one_mul,List.take_length]
end
theorem Sl.sliced2 {w:World} {A:oAx} {n c i:Nat} {T:List zGg} (h:Sl zOe w (.slice A n c) T) (hi:i<=T.length):Sl zOe w (.slice (if c=i then A else A.map (·.add (i*2))) (T.length-i) (c-i)) (T.drop i):=h.sliced hi
theorem zCo.some_ {α:Type} {K:Kind α} {B n c:Nat} {w:World} {A:oAx} {xs:List α} (h:zCo K B w (.slice A n c) xs) (hn:xs≠[]):∃ g,A=some ⟨g,0,none⟩/\B<=g/\g<w.heap.size:=by
 obtain ⟨css,ha,h1,h2⟩:=h
 rcases h2 with ⟨hv,h2⟩|⟨g,cap,cur,hv,hB,hg,hle,hm,hs,htake⟩
 ·exact absurd (List.eq_nil_of_length_eq_zero h2) hn
 injection hv with e1 e2 e3;exact ⟨g,e1,hB,zNc hg⟩
theorem zMl:∀ {css:List (List Value)} (i:Nat) (u z z':Value),(∀ cs∈css,cs.length=2)->css[i]? = some [u,z]->(css.set i [u,z']).flatten=css.flatten.set (i*2+1) z'
 | c::css,0,u,z,z',_,e=>by
  injection e with e;subst e
  simp
 | c::css,i+1,u,z,z',h,e=>by
  have hc:=h c sMx;rw [List.set_cons_succ,List.flatten_cons,List.flatten_cons,zMl i u z z' (fun x hx=>h x (by simp [hx])) e,show (i+1)*2+1=c.length+(i*2+1) by omega,List.set_append_right _ _ oMx]
  simp
theorem zCo.weight {B g n c i:Nat} {w:World} {T:List zGg} {ss:List ByteArray} {z:Int} (h:zCo zOe B w (.slice (some ⟨g,0,none⟩) n c) T) (hi:T[i]? = some (ss,z)) (z':Int) :
  zCo zOe B (w.setCell ⟨g,i*2+1,none⟩ (.int .i64 z')) (.slice (some ⟨g,0,none⟩) n c) (T.set i (ss,z'))/\w.frozen? ⟨g,i*2+1,none⟩=false:=by
 obtain ⟨css,ha,ho⟩:=h;obtain ⟨cs,hcs,u,rfl,hu⟩:=ha.get i _ hi
 have hn:n=T.length:=by
  rcases ho.2 with ⟨hv,h2⟩|⟨g',cap,cur,hv, -⟩
  ·cases hv
  injection hv
 subst hn
 have hfr:w.frozen? ⟨g,i*2+1,none⟩=false:=by
  rcases ho.2 with ⟨hv,h2⟩|⟨g',cap,cur,hv,hB,hg, -⟩
  ·cases hv
  injection hv with e1;injection e1 with e1;injection e1 with e1;subst e1
  simp [World.frozen?,hg]
 have hs:=ho.stored (i*2+1) (.int .i64 z');have hk:KpT [zOe.t] w (w.setCell ⟨g,i*2+1,none⟩ (.int .i64 z')) := .of_own ho hs.2
 have hd:∀ t∈zOe.ts,t ∉ [zOe.t]:=by decide
 refine ⟨⟨css.set i [u,.int .i64 z'],(ha.imp fun _ _ hE=>zOe.kp hE hk hd).set i ⟨u,rfl,hu.kp hk dCx⟩,?_⟩,hfr⟩;rw [List.length_set,zMl i u _ _ ha.lens hcs];exact hs.1
theorem ins_at {x:zGg}:∀ {T:List zGg} (i:Nat),i<=T.length->(∀ j,(hj:j<T.length)->j<i->ltL T[j].1 x.1=true)->(∀ h:i<T.length,ltL T[i].1 x.1=false) ->
  (∀ y,T[i]? = some y->y.1=x.1->ins x T=T.set i (y.1,y.2+x.2))/\((∀ y,T[i]? = some y->y.1≠x.1)->ins x T=T.take i++x::T.drop i)
 | [],i,hi,_,_=>by
  obtain rfl:i=0:=by simpa using hi
  exact ⟨fun y h=>(by cases h),fun _=>rfl⟩
 | y::T,0,_,_,h2=>by
  have h:=h2 sMx;simp only [List.getElem_cons_zero] at h;refine ⟨fun z hz e=>?_,fun hne=>?_⟩
  ·injection hz with hz;subst hz
   show (if ltL y.1 x.1=true then _ else if y.1=x.1 then _ else _)=_
   rw [if_neg (by rw [h];simp),if_pos e]
   rfl
  have:=hne y rfl
  simp [ins,h,this]
 | y::T,i+1,hi,h1,h2=>by
  have h:=h1 0 sMx oMx;simp only [List.getElem_cons_zero] at h;have ih:=ins_at (x:=x) (T:=T) i (by simpa using hi) (fun j hj hji=>by have:=h1 (j+1) (by simpa using hj) oMx;simpa using this) (fun hl=>by have:=h2 (by simpa using hl);simpa using this);refine ⟨fun z hz e=>?_,fun hne=>?_⟩
  ·have:=ih.1 z hz e
   simp [ins,h,this]
  have:=ih.2 hne
  simp [ins,h,this]
theorem zNg {T:List zGg} (hT:Lit T) (k:Nat) (hk:k<=T.length):(zNf [] (T.take k)).length<=k/\∀ r∈zNf [] (T.take k),r.1.length<=1000 /\ -1000000000000<=r.2/\r.2<=1000000000000:=by
 have h1:=zNi [] (T.take k)
 have hw:WB 1000000000 (T.take k):=fun r hr=>by have:=(hT.2 r (List.mem_of_mem_take hr)).2;omega
 have h2:=zNl hw
 have hl:(T.take k).length=k:=by simp;omega
 have:=hT.1;refine ⟨by simp at h1;omega,fun r hr=>⟨?_,?_⟩⟩
 ·rcases zNh hr with ⟨y,hy,_⟩|⟨y,hy,e⟩
  ·cases hy
  rw [e];exact (hT.2 y (List.mem_of_mem_take hy)).1
 have h3:=h2 r hr;rw [hl] at h3;have h4:k*1000000000<=1000*1000000000:=Nat.mul_le_mul_right _ oMx;omega
theorem zRp {v:Value} {g:Nat} (h:∀ q,v.ownBlock=some q->q≠g):v.ownBlock=none\/v.ownBlock≠some g:=by
 rcases hv:v.ownBlock with _|q
 ·exact .inl rfl
 exact .inr fun e=>h q hv (by injection e)
theorem own_len {A:oAx} {n m c d q:Nat} (h:(Value.slice A n c).ownBlock=some q):(Value.slice A m d).ownBlock=some q:=by
 rcases A with _|a
 ·cases h
 exact h
theorem zMe {α:Type} (p:α->Bool) (L:List α) (x:α):(L++[x]).filter p=L.filter p++if p x then [x] else []:=by rw [List.filter_append];simp only [List.filter_cons,List.filter_nil]
theorem zEp {va:Value} {T:List zGg} {w:World} (ha:Sl zOe w va T) (hT:Lit T):Calls Tryz.prog 38 #[va] w (zFr zOe w (norm T)):=by
 obtain ⟨A,c,rfl, -⟩:=ha.form;have HA:=oH ha;have HT:=oH hT;have htl:=hT.1;clear ha hT
 go_enter Tryz.func38,Tryz.ntmps38
 go_wp2_with fail
 go_loopw [3,12] (fun v iv wr=>∃ k:Nat,iv = .int .i64 (k:Int)/\k<=T.length/\zCo zOe w.heap.size wr v (zNf [] (T.take k))/\Below w.heap.size w wr) (fun _ iv _=>T.length-(intOf iv).toNat)
 ·exact ⟨0,rfl,oLx,.nil _ _ _,bRx⟩
 obtain ⟨k,rfl,hk,hown,hbel⟩:=hrel;obtain ⟨Av,cv,rfl,hcv⟩:=hown.form;have hsz:=hbel.size;have hof:=zNg HT.out k hk
 by_cases hlt:k<T.length
 ·obtain ⟨b,off,rfl,hb,hc⟩:=(HA.below hbel).sli2 (by intro e;subst e;simp at hlt);obtain ⟨u,c0,c1,hu⟩:=hc k hlt;obtain ⟨hzl,hz1,hz2⟩:=HT.2 _ (List.getElem_mem hlt);have HINS:=oH (show zNf [] (T.take (k+1))=ins T[k] (zNf [] (T.take k)) by rw [List.take_succ_eq_append_getElem hlt,zNj]);generalize zNf [] (T.take k)=O at *;generalize T[k]=x at *;obtain ⟨ss,z⟩:=x;simp only at hzl hz1 hz2 hu c1;obtain ⟨Au,cu,rfl, -⟩:=hu.form
  have hol:O.length<=1000:=by omega
  have HOL:=oH hol;have HOF:=oH hof.2;have HNB0:=oH (fun j hj=>(hown.blk j hj).2.1);have hba:Below wr.heap.size wr (wr.alloc (.cells #[.slice Au ss.length cu,.int .i64 z] 64)):=bA
  have HZ:=oH (show Blk (wr.alloc (.cells #[.slice Au ss.length cu,.int .i64 z] 64)) wr.heap.size 64 [.slice Au ss.length cu,.int .i64 z]/\zCo zOe w.heap.size (wr.alloc (.cells #[.slice Au ss.length cu,.int .i64 z] 64)) (.slice Av O.length cv) O/\Sl zOg (wr.alloc (.cells #[.slice Au ss.length cu,.int .i64 z] 64)) (.slice Au ss.length cu) ss/\Below w.heap.size w (wr.alloc (.cells #[.slice Au ss.length cu,.int .i64 z] 64))/\wr.heap.size<(wr.alloc (.cells #[.slice Au ss.length cu,.int .i64 z] 64)).heap.size from
   ⟨Blk.new wr _ [_,_],hown.below hba,hu.below hba,hbel.trans (hba.mono hsz),by simp⟩)
  clear hu hown hc hb hbel hba hof
  go_upto_block 2 with (fail)
  generalize wr.alloc (.cells #[.slice Au ss.length cu,.int .i64 z] 64)=wz at HZ ⊢
  go_cut [6] (fun jv wc=>∃ j m:Nat,jv = .int .i64 (j:Int)/\j<=O.length/\(∀ i,(h:i<O.length)->i<j->ltL O[i].1 ss=true)/\(∀ h:j<O.length,ltL O[j].1 ss=false)/\wc=wz.drewN m)
  case first =>
   go_wp2_with fail
   go_loopw [6] (fun iv wq=>∃ j m:Nat,iv = .int .i64 (j:Int)/\j<=O.length/\(∀ i,(h:i<O.length)->i<j->ltL O[i].1 ss=true)/\wq=wz.drewN m) (fun iv _=>O.length-(intOf iv).toNat)
   ·exact ⟨0,0,rfl,oLx,fun i _ h=>absurd h oMx,rfl⟩
   obtain ⟨j,m,rfl,hj,hall,rfl⟩:=hrel;have HALL:=oH hall;clear hall
   by_cases hltj:j<O.length
   ·obtain ⟨hbx,hown,hus, -, -⟩:=HZ.out;obtain ⟨g,off2,rfl, -,hc2⟩:=hown.sl.sli2 (by intro e;subst e;simp at hltj);obtain ⟨u2,d0,d1,hu2⟩:=hc2 j hltj;have k0:=hbx.at_ (i:=0) rfl;have hkl:=(HOF.out _ (List.getElem_mem hltj)).1;have HL:=oH (fun n=>zEf (hu2.drewN (m+n)) (hus.drewN (m+n)) hkl hzl)
    have HNX:=oH (show ltL O[j].1 ss=true->∀ i,(h:i<O.length)->i<j+1->ltL O[i].1 ss=true from fun hy i h hi=>by
     rcases Nat.lt_or_ge i j with h1|h1
     ·exact HALL.out i h h1
     obtain rfl:i=j:=by omega
     exact hy)
    have HNO:=oH (show ltL O[j].1 ss=false->∀ h:j<O.length,ltL O[j].1 ss=false from fun hy _=>hy);generalize ltL O[j].1 ss=lb at *;clear hbx hown hus hc2 hu2 hkl d1
    cases lb
    ·have E:=oH (HNO.out rfl);go_wp2_with fail
     go_quiet ((go_at_call 58;exact zSr (HL.out _)))
     go_wp2_with fail
     go_meet
     exact ⟨j,_,rfl,hj,HALL.out,E.out,by first|rfl|(simp only [World.drewN_drewN];rfl)⟩
    have E:=oH (HNX.out rfl);go_wp2_with fail
    go_quiet ((go_at_call 58;exact zSr (HL.out _)))
    go_wp2_with fail;go_roundw
    ·exact ⟨j+1,_,by go_num,oMx,E.out,rfl⟩
    simp [intOf];omega
   go_wp2_with fail
   go_quiet (fail)
   go_wp2_with fail
   go_meet
   exact ⟨j,_,rfl,hj,HALL.out,fun h=>absurd h hltj,by first|rfl|(simp only [World.drewN_drewN];rfl)⟩
  case rest =>
   obtain ⟨j,m,rfl,hj,hlo,hhi,rfl⟩:=hcut;obtain ⟨hi1,hi2⟩:=ins_at (x:=(ss,z)) j hj hlo hhi;have HI1:=oH hi1;have HI2:=oH hi2;have HJL:=oH hj;clear hlo hhi hi1 hi2;go_upto_region 8 with (fail)
   go_cut [45] (fun bv wc=>∃ (bb:Bool) (n:Nat),bv = .bool bb/\(bb=true↔∃ y,O[j]? = some y/\y.1=ss)/\wc=wz.drewN n)
   case first =>
    by_cases hltj:j<O.length
    ·obtain ⟨hbx,hown,hus, -, -⟩:=HZ.out;obtain ⟨g,off2,rfl, -,hc2⟩:=hown.sl.sli2 (by intro e;subst e;simp at hltj);obtain ⟨u2,d0,d1,hu2⟩:=hc2 j hltj;have k0:=hbx.at_ (i:=0) rfl;have hkl:=(HOF.out _ (List.getElem_mem hltj)).1;obtain ⟨r,hr⟩:=eXx (decide (O[j].1=ss));have HL:=oH (fun n=>zGj r (hu2.drewN (m+n)) (hus.drewN (m+n)) (by rw [<-hr,decide_eq_true_eq]) hkl hzl);have HR:Hid (r=true↔∃ y,O[j]? = some y/\y.1=ss):=oH (by rw [<-hr,decide_eq_true_eq,List.getElem?_eq_getElem hltj];exact ⟨fun h=>⟨_,rfl,h⟩,fun ⟨y,e,h⟩=>by injection e with e;rw [e];exact h⟩);clear hbx hown hus hc2 hu2 hkl d1 hr;go_wp2_with fail
     go_quiet ((go_at_call 59;exact zSr (HL.out _)))
     go_wp2_with fail
     go_meet
     exact ⟨r,_,rfl,HR.out,by first|rfl|(simp only [World.drewN_drewN];rfl)⟩
    go_wp2_with fail
    go_quiet (fail)
    go_wp2_with fail
    go_meet
    exact ⟨false,_,rfl,by rw [List.getElem?_eq_none oMx];simp,by first|rfl|(simp only [World.drewN_drewN];rfl)⟩
   case rest =>
    obtain ⟨bb,n,rfl,hbb,rfl⟩:=hcut;have hz:Blk (wz.drewN n) wr.heap.size 64 [.slice Au ss.length cu,.int .i64 z]/\zCo zOe w.heap.size (wz.drewN n) (.slice Av O.length cv) O/\Sl zOg (wz.drewN n) (.slice Au ss.length cu) ss/\Below w.heap.size w (wz.drewN n)/\wr.heap.size<(wz.drewN n).heap.size:=⟨HZ.1,HZ.2.1.below (below_drewN bRx n),HZ.2.2.1.drewN n,below_drewN HZ.2.2.2.1 n,HZ.2.2.2.2⟩;clear HZ;generalize wz.drewN n=wz at hz ⊢;obtain ⟨hbx,hown,hus,hbel,hsz2⟩:=hz;have HBX:=oH hbx;have HOWN:=oH hown;have HUS:=oH hus;have HBEL:=oH hbel;have HSZ:=oH (show w.heap.size<=wz.heap.size by omega);have HNB:=oH (fun q hq=>Nat.lt_trans (HNB0.out q hq) hsz2);have HWz:=oH (Below.refl wz.heap.size wz).drew
    cases bb
    ·have E:=oH (HI2.out fun y hy e=>by have:=hbb.2 ⟨y,hy,e⟩;cases this);have HNB2:=oH (show ∀ q,(Value.slice Av j cv).ownBlock=some q->q<wr.heap.size from fun q hq=>HNB0.out q (own_len hq))
     have KB:Hid (∀ W,Below wz.heap.size wz W->W.cell? ⟨wr.heap.size,0,none⟩=some (.slice Au ss.length cu)/\W.cell? ⟨wr.heap.size,1,none⟩=some (.int .i64 z)):=oH fun W hW=>⟨(hbx.below hW).at_ (i:=0) rfl,(hbx.below hW).at_ (i:=1) rfl⟩
     have hjc:(j:Int)<=(cv:Int):=by omega
     have hjo:(j:Int)<=(O.length:Int):=by omega
     have hj0:(0:Int)<=(j:Int):=by omega
     clear hbx hown hus hbel hbb;go_wp2_with fail;refine xAq (S:=(fun w'=>w'.cell? ⟨wr.heap.size,0,none⟩=some (.slice Au ss.length cu)/\w'.cell? ⟨wr.heap.size,1,none⟩=some (.int .i64 z))) 10 (by kernel_rfl) rfl (by kernel_rfl) (by kernel_rfl) rfl (by exact KB.out _ HWz.out) (fun hHeld=>?_);simp only [List.pop_toArray,List.dropLast_cons_cons,List.dropLast_singleton];refine tkH 0 ?_;refine tkH 1 ?_;refine tkH 2 ?_;refine tkH 3 ?_;refine tkH 5 ?_;refine tkH 6 ?_;refine tkH 7 ?_
     try simp only [Act.put,tkA,tkB,tkC]
     refine tkS 4 fun K hK=>?_
     go_simp
     have HWm:=oH ((Below.refl wz.heap.size wz).alloc lRx (.cells #[.slice Au ss.length cu,.int .i64 z] 64)).drew;refine hK.out _ _ ?_ (fun hHeld=>?_)
     ·first|with_reducible exact KB.out _ HWm.out|with_reducible exact KSc.out|with_reducible exact KSd.out
     clear hK K
     try simp only [Act.put,tkA,tkB,tkC]
     refine tkS 8 fun K hK=>?_
     (refine zWf _ _ _ (by rfl) (by rfl) Tryz.underlying43 Tryz.kiRow (by go_simp) (zCo.new (K:=zOe) (x:=(ss,z)) (B:=w.heap.size) rfl HSZ.out ⟨_,rfl,HUS.out⟩) (by go_simp) ((HOWN.sl.below HWm.out).sliced2 HJL.out) (by have:=HOL.out;simp only [List.length_singleton,List.length_drop];omega) (Nat.le_trans HSZ.out HWm.size) ?_;intro v1 wc hap;have HT1:=oH hap.own.sl;have hbc:Below w.heap.size w wc:=hap.bel (HBEL.trans (HWm.mono HSZ.out));have HBC:=oH hbc;have HO2:=oH ((HOWN.below HWm.out).kp hap.gr (zRp fun q hq=>Nat.ne_of_lt (HNB.out q hq)) hap.kp dCx);have hbx:=(HBX.below HWm.out).grown hap.gr (by simp only [Value.ownBlock];intro e;injection e with e;have:=HBX.lt;omega);have HBXc:=oH hbx;have KSc:Hid (wc.cell? ⟨wr.heap.size,0,none⟩=some (.slice Au ss.length cu)/\wc.cell? ⟨wr.heap.size,1,none⟩=some (.int .i64 z)):=oH ⟨hbx.at_ (i:=0) rfl,hbx.at_ (i:=1) rfl⟩;clear hbc hbx;clear hap)
     refine hK.out _ _ ?_ (fun hHeld=>?_)
     ·first|with_reducible exact KB.out _ HWm.out|with_reducible exact KSc.out|with_reducible exact KSd.out
     clear hK K
     try simp only [Act.put,tkA,tkB,tkC]
     refine tkS 9 fun K hK=>?_
     (refine zWf _ _ _ (by rfl) (by rfl) Tryz.underlying43 Tryz.kiRow (by go_simp) (HO2.take_ HJL.out) (by go_simp) (HT1.out) (by have:=HOL.out;simp only [List.length_append,List.length_take,List.length_singleton,List.length_drop];omega) (HBC.size) ?_;intro v' wd hap;have HAP:=oH hap.own;have HBP:=oH (hap.bel HBC.out);have KSd:Hid (wd.cell? ⟨wr.heap.size,0,none⟩=some (.slice Au ss.length cu)/\wd.cell? ⟨wr.heap.size,1,none⟩=some (.int .i64 z)):=oH ⟨(HBXc.app' hap (fun q hq=>HNB2.out q hq)).at_ (i:=0) rfl,(HBXc.app' hap (fun q hq=>HNB2.out q hq)).at_ (i:=1) rfl⟩;clear hap)
     refine hK.out _ _ ?_ (fun hHeld=>?_)
     ·first|with_reducible exact KB.out _ HWm.out|with_reducible exact KSc.out|with_reducible exact KSd.out
     clear hK K
     try simp only [Act.put,tkA,tkB,tkC]
     refine wpAnyH_done (by kernel_rfl) ?_ _;simp only [zWx,List.getElem_toArray,List.getElem_cons_succ,List.getElem_cons_zero];go_wp2_with fail;go_roundw
     ·exact ⟨k+1,by go_num,oMx,by rw [HINS.out,E.out];exact HAP.out,HBP.out⟩
     simp [intOf];omega
    obtain ⟨y,hy,hyk⟩:=hbb.1 rfl;have E:=oH (HI1.out y hy hyk);have hltj:j<O.length:=(List.getElem?_eq_some_iff.1 hy).1;obtain ⟨g,rfl,hgB,hgl⟩:=hown.some_ (by intro e;subst e;simp at hltj);obtain ⟨g2,off2,e2, -,hc2⟩:=hown.sl.sli2 (by intro e;subst e;simp at hltj);injection e2 with e2;injection e2 with e2 e3;subst e2 e3;obtain ⟨u2,d0,d1,hu2⟩:=hc2 j hltj;have hyb:=HOF.out y (List.mem_of_getElem? hy)
    have hyj:O[j]=y:=by have:=List.getElem?_eq_getElem hltj;rw [hy] at this;injection this with this;exact this.symm
    rw [hyj,Nat.zero_add] at d1;obtain ⟨y1,y2⟩:=y;simp only at d1 hyb hyk;have hwt:=hown.weight hy (y2+z);have HW:=oH hwt.1;have hfr:=hwt.2;have hcl:=hown.weight hy (y2+z);have hwr:IntKind.i64.wrap (y2+z)=y2+z:=IntWalk.i64_in _ oMx
    have KB:Hid (∀ W,Below wz.heap.size wz W->W.cell? ⟨wr.heap.size,1,none⟩=some (.int .i64 z)/\W.cell? ⟨g,j*2+1,none⟩=some (.int .i64 y2)):=oH fun W hW=>⟨(hbx.below hW).at_ (i:=1) rfl,(hW.cell (p:=⟨g,j*2+1,none⟩) hgl).trans d1⟩
    clear hbx hown hus hbel hbb hwt hc2 hu2 d0 hcl;go_wp2_with fail;refine xAq (S:=(fun w'=>w'.cell? ⟨wr.heap.size,1,none⟩=some (.int .i64 z)/\w'.cell? ⟨g,j*2+1,none⟩=some (.int .i64 y2))) 10 (by kernel_rfl) rfl (by kernel_rfl) (by kernel_rfl) rfl (by exact KB.out _ HWz.out) (fun hHeld=>?_);simp only [List.pop_toArray,List.dropLast_cons_cons,List.dropLast_singleton];refine tkH 0 ?_;refine tkH 1 ?_;refine tkH 2 ?_;refine tkH 3 ?_;refine tkH 4 ?_;refine tkH 5 ?_;refine tkH 6 ?_;refine tkH 7 ?_;refine tkH 8 ?_;refine tkH 9 ?_
    try simp only [Act.put,tkA,tkB,tkC]
    refine wpAnyH_done (by kernel_rfl) ?_ _;simp only [zWx,List.getElem_toArray,List.getElem_cons_succ,List.getElem_cons_zero];go_wp2_with fail;go_roundw
    ·exact ⟨k+1,by go_num,oMx,by rw [HINS.out,E.out];exact HW.out,by first|exact HBEL.setCell (p:=⟨g,j*2+1,none⟩) (by show w.heap.size<=g;exact hgB) _|exact (HBEL.setCell (p:=⟨g,j*2+1,none⟩) (by show w.heap.size<=g;exact hgB) _).drew⟩
    simp [intOf];omega
 obtain rfl:k=T.length:=by omega
 rw [List.take_length] at hown hof ⊢;obtain ⟨wi,rfl⟩:=nWx wr;have HNM:=oH (norm_eq T);have HOL:=oH hof.1
 have hol:(zNf [] T).length<=1000:=by omega
 generalize zNf [] T=O at *;have HO:=oH hown.sl;have HBEL:=oH hbel;clear hown hbel hof;go_wp2_with fail
 go_loopw [7,69] (fun v iv wr=>∃ k:Nat,iv = .int .i64 (k:Int)/\k<=O.length/\zCo zOe wi.heap.size wr v ((O.take k).filter fun r => !(r.2==0))/\Below wi.heap.size wi wr) (fun _ iv _=>O.length-(intOf iv).toNat)
 ·exact ⟨0,rfl,oLx,.nil _ _ _,bRx⟩
 obtain ⟨k,rfl,hk,hown,hb⟩:=hrel;obtain ⟨Aw,cw,rfl, -⟩:=hown.form;have hsq:=hb.size;have HB:=oH hb
 by_cases hlt:k<O.length
 ·obtain ⟨b,off,rfl,hbb,hc⟩:=(HO.below hb).sli2 (by intro e;subst e;simp at hlt);obtain ⟨u,c0,c1,hu⟩:=hc k hlt;have HTK:=oH (show (O.take (k+1)).filter (fun r:zGg => !(r.2==0))=_ from by rw [List.take_succ_eq_append_getElem hlt,zMe])
  have hfl:((O.take k).filter fun r:zGg => !(r.2==0)).length<=1000:=by have:=List.length_filter_le (fun r:zGg => !(r.2==0)) (O.take k);simp at this;omega
  generalize (O.take k).filter (fun r:zGg => !(r.2==0))=F at *;generalize O[k]=x at *;obtain ⟨ss,z⟩:=x;simp only at hu c1 HTK;obtain ⟨Au,cu,rfl, -⟩:=hu.form;have HOW:=oH (hown.alloc (.cells #[.slice Au ss.length cu,.int .i64 z] 64));have HB1:=oH (hb.alloc hsq (.cells #[.slice Au ss.length cu,.int .i64 z] 64));have HU:=oH (hu.below (bRx.alloc lRx (.cells #[.slice Au ss.length cu,.int .i64 z] 64)));clear hown hb hu hc hbb
  by_cases hz0:z=0
  ·subst hz0;go_wp2_with fail;go_roundw
   ·exact ⟨k+1,by go_num,oMx,by rw [HTK.out];simp only [beq_self_eq_true,Bool.not_true,Bool.false_eq_true,if_false,List.append_nil];exact HOW.out,HB1.out⟩
   simp [intOf];omega
  have hzb:(z==0)=false:=by rw [beq_eq_false_iff_ne];exact hz0
  have hzn:(z != 0)=true:=by rw [bne,hzb];rfl
  go_wp2_with (at_builtin;refine xAn _ _ _ rfl rfl Tryz.underlying43 Tryz.kiRow (HOW.alloc _) (Sl.new (K:=zOe) (x:=(ss,z)) sMx ⟨_,rfl,HU.out⟩) (by simp only [List.length_singleton];omega) (by simp;omega) ?_)
  intro v' w3 hap
  have HAP:Hid (zCo zOe wi.heap.size w3 v' (F++[(ss,z)])):=oH hap.own;have HB3:=oH (hap.bel (HB1.alloc HB1.size _));clear hap;go_wp2_with fail;go_roundw
  ·exact ⟨k+1,by go_num,oMx,by rw [HTK.out];simp only [hzb,Bool.not_false,if_true];exact HAP.out,HB3.out⟩
  simp [intOf];omega
 have HLM:=oH (show O.take k=O from List.take_of_length_le oMx);rw [HLM.out] at hown;go_wp2_with fail;go_ret
 exact ⟨_,rfl,by rw [HNM.out];rw [HLM.out];exact hown.low hsz,HBEL.trans (HB.mono hsz)⟩
theorem zMm:∀ {css:List (List Value)} (i:Nat) (u z a b:Value),(∀ cs∈css,cs.length=2)->css[i]? = some [u,z]->(css.set i [a,b]).flatten=(css.flatten.set (i*2) a).set (i*2+1) b
 | c::css,0,u,z,a,b,_,e=>by
  injection e with e;subst e
  simp
 | c::css,i+1,u,z,a,b,h,e=>by
  have hc:=h c sMx;rw [List.set_cons_succ,List.flatten_cons,List.flatten_cons,zMm i u z a b (fun x hx=>h x (by simp [hx])) e,show (i+1)*2=c.length+(i*2) by omega,show c.length+i*2+1=c.length+(i*2+1) by omega,List.set_append_right _ _ oMx,List.set_append_right _ _ oMx]
  simp
theorem zCo.row {B g n c:Nat} {w:World} {T:List zGg} (h:zCo zOe B w (.slice (some ⟨g,0,none⟩) n c) T) {i:Nat} (hi:i<T.length):∃ u z,T[i]? = some (T.getD i zLe)/\z=(T.getD i zLe).2/\w.cell? ⟨g,i*2,none⟩=some u/\w.cell? ⟨g,i*2+1,none⟩=some (.int .i64 z)/\Sl zOg w u (rk T i):=by
 obtain ⟨g',off,e, -,hc⟩:=h.sl.sli2 (by intro e;subst e;simp at hi);injection e with e;injection e with e1 e2;subst e1 e2;obtain ⟨u,c0,c1,hu⟩:=hc i hi
 have e3:T.getD i zLe=T[i]:=by simp [hi]
 rw [Nat.zero_add] at c0 c1;refine ⟨u,_,by rw [e3,List.getElem?_eq_getElem hi],rfl,c0,by rw [e3];exact c1,?_⟩;unfold rk;rw [e3];exact hu
theorem zCo.frz {B g n c:Nat} {w:World} {T:List zGg} (h:zCo zOe B w (.slice (some ⟨g,0,none⟩) n c) T) (i:Nat):w.frozen? ⟨g,i,none⟩=false:=by
 obtain ⟨css,ha,ho⟩:=h
 rcases ho.2 with ⟨hv,h2⟩|⟨g',cap,cur,hv,hB,hg, -⟩
 ·cases hv
 injection hv with e1;injection e1 with e1;injection e1 with e1;subst e1
 simp [World.frozen?,hg]
theorem zCo.swap {B g n c:Nat} {w:World} {T:List zGg} (h:zCo zOe B w (.slice (some ⟨g,0,none⟩) n c) T) {i j:Nat} (hi:i<T.length) (hj:j<T.length) {u1 u2:Value} {z1 z2:Int}
  (a1:w.cell? ⟨g,i*2,none⟩=some u1) (a2:w.cell? ⟨g,i*2+1,none⟩=some (.int .i64 z1)) (b1:w.cell? ⟨g,j*2,none⟩=some u2) (b2:w.cell? ⟨g,j*2+1,none⟩=some (.int .i64 z2)) :
  zCo zOe B ((((w.setCell ⟨g,i*2,none⟩ u2).setCell ⟨g,i*2+1,none⟩ (.int .i64 z2)).setCell ⟨g,j*2,none⟩ u1).setCell ⟨g,j*2+1,none⟩ (.int .i64 z1)) (.slice (some ⟨g,0,none⟩) n c) (swp T i j) /\
  Below B w ((((w.setCell ⟨g,i*2,none⟩ u2).setCell ⟨g,i*2+1,none⟩ (.int .i64 z2)).setCell ⟨g,j*2,none⟩ u1).setCell ⟨g,j*2+1,none⟩ (.int .i64 z1)):=by
 obtain ⟨css,ha,ho⟩:=h
 have hn:n=T.length:=by
  rcases ho.2 with ⟨hv,h2⟩|⟨g',cap,cur,hv, -⟩
  ·cases hv
  injection hv
 subst hn;have hgB:=(ho.lt g rfl).1;have hl:=ha.lens;have hcl:=ha.len
 have get:∀ k,k<T.length->∀ u z,w.cell? ⟨g,k*2,none⟩=some u->w.cell? ⟨g,k*2+1,none⟩=some (.int .i64 z)->css[k]? = some [u,.int .i64 z]/\zOe.E w [u,.int .i64 z] (T.getD k zLe):=fun k hk u z h1 h2=>by
  obtain ⟨cs,hcs,v,rfl,hv⟩:=ha.get k _ (List.getElem?_eq_getElem hk);have c1:=zMi hl k 0 _ _ hcs rfl;have c2:=zMi hl k 1 _ _ hcs rfl;have d1:=ho.cellAt (k*2) (by show k*2<T.length*2;omega);have d2:=ho.cellAt (k*2+1) (by show k*2+1<T.length*2;omega);rw [h1,show css.flatten[k*2]? = css.flatten[k*zOe.k+0]? from rfl,c1] at d1;rw [h2,show css.flatten[k*2+1]? = css.flatten[k*zOe.k+1]? from rfl,c2] at d2;injection d1 with d1;injection d2 with d2;injection d2 with _ d2;subst d1 d2;rw [show T.getD k zLe=T[k] by simp [hk]];exact ⟨hcs,_,rfl,hv⟩
 obtain ⟨p1,p2⟩:=get i hi u1 z1 a1 a2;obtain ⟨q1,q2⟩:=get j hj u2 z2 b1 b2;have s1:=ho.stored (i*2) u2;have s2:=s1.1.stored (i*2+1) (.int .i64 z2);have s3:=s2.1.stored (j*2) u1;have s4:=s3.1.stored (j*2+1) (.int .i64 z1);have hk:KpT [zOe.t] w ((((w.setCell ⟨g,i*2,none⟩ u2).setCell ⟨g,i*2+1,none⟩ (.int .i64 z2)).setCell ⟨g,j*2,none⟩ u1).setCell ⟨g,j*2+1,none⟩ (.int .i64 z1)):=(((KpT.of_own ho s1.2).trans (.of_own s1.1 s2.2)).trans (.of_own s2.1 s3.2)).trans (.of_own s3.1 s4.2)
 have hd:∀ t∈zOe.ts,t ∉ [zOe.t]:=by decide
 have hbs:∀ (W:World) k x,Below B W (W.setCell ⟨g,k,none⟩ x):=fun W k x=>(Below.refl B W).setCell (p:=⟨g,k,none⟩) hgB x
 refine ⟨⟨(css.set i [u2,.int .i64 z2]).set j [u1,.int .i64 z1],((ha.imp fun _ _ hE=>zOe.kp hE hk hd).set i (zOe.kp q2 hk hd)).set j (zOe.kp p2 hk hd),?_⟩,(((hbs _ _ _).trans (hbs _ _ _)).trans (hbs _ _ _)).trans (hbs _ _ _)⟩
 have hcj:∃ x y,(css.set i [u2,.int .i64 z2])[j]? = some [x,y]:=by
  rw [List.getElem?_set]
  split
  ·split
   ·exact ⟨_,_,rfl⟩
   rename_i h1 h2;omega
  exact ⟨_,_,q1⟩
 obtain ⟨x,y,hcj⟩:=hcj
 have hl2:∀ cs∈css.set i [u2,.int .i64 z2],cs.length=2:=fun cs hcs=>by
  rcases List.mem_or_eq_of_mem_set hcs with h1|h1
  ·exact hl cs h1
  rw [h1];rfl
 rw [zMm j _ _ _ _ hl2 hcj,zMm i _ _ _ _ hl p1,swp_len];exact s4.1
theorem zBr {B a b c:Nat} {A:oAx} {T:List zGg} {w:World} (ho:zCo zOe B w (.slice A T.length c) T) (hT:∀ r∈T,r.1.length<=1000) (hl:T.length<=1000) (hab:a<=b) (hb:b<=T.length) (hB:B<=w.heap.size) :
  Calls Tryz.prog 110 #[.slice A T.length c,.int .i64 (a:Int),.int .i64 (b:Int),.func (.func 83) #[] #[]] w fun e w'=>e = .returned (.tuple #[])/\∃ T',zCo zOe B w' (.slice A T.length c) T'/\Win T T' a b/\zGb T' a b/\Below B w w':=by
 have HO:=oH ho;have HT:=oH hT;clear ho hT
 go_enter Tryz.func110,Tryz.ntmps110
 go_wp2_with fail
 go_loopw [8] (fun iv wr=>∃ (i:Nat) (T':List zGg),iv = .int .i64 (i:Int)/\a<i/\zCo zOe B wr (.slice A T.length c) T'/\Win T T' a b/\zGb T' a (min i b)/\Below B w wr) (fun iv _=>T.length+1-(intOf iv).toNat)
 ·exact ⟨a+1,T,by go_num,oMx,HO.out,.refl _ _ _,.one _ oMx,bRx⟩
 obtain ⟨wi,rfl⟩:=nWx wr;obtain ⟨i,T1,rfl,hai,hown,hwin,hsrt,hbel⟩:=hrel;have HOWN:=oH hown;have HWIN:=oH hwin;have HSRT:=oH hsrt;have HBEL:=oH hbel;clear hown hwin hsrt hbel
 by_cases hlt:i<b
 ·have HMIN:=oH (show min i b=i by omega);have HMIN2:=oH (show min (i+1) b=i+1 by omega);obtain ⟨g,rfl,hgB, -⟩:=HOWN.some_ (by intro e;have:=HWIN.len;rw [e] at this;simp at this;omega);go_wp2_with fail
  go_loopw [9] (fun jv wr=>∃ (j:Nat) (T2:List zGg),jv = .int .i64 (j:Int)/\a<=j/\j<=i/\zCo zOe B wr (.slice (some ⟨g,0,none⟩) T.length c) T2/\Win T T2 a b/\InsI T2 a i j/\Below B w wr) (fun jv _=>(intOf jv).toNat)
  ·exact ⟨i,T1,rfl,oMx,lRx,HOWN.out,HWIN.out,.start (by have:=HSRT.out;rw [HMIN.out] at this;exact this),HBEL.out⟩
  obtain ⟨j,T2,rfl,haj,hji,hown,hwin,hins,hbel⟩:=hrel;have hlen:=hwin.len
  by_cases hj:a<j
  ·obtain ⟨m,rfl⟩:∃ m,j=m+1:=⟨j-1,oMx⟩
   have hmem:∀ k,k<T2.length->(rk T2 k).length<=1000:=fun k hk=>HT.out _ (hwin.perm.mem_iff.1 (by show T2.getD k zLe∈T2;rw [show T2.getD k zLe=T2[k] by simp [hk]];exact List.getElem_mem hk))
   obtain ⟨u1,z1, -, -,a1,a2,hu1⟩:=hown.row (i:=m+1) oMx;obtain ⟨u2,z2, -, -,b1,b2,hu2⟩:=hown.row (i:=m) oMx;obtain ⟨Au1,cu1,rfl, -⟩:=hu1.form;obtain ⟨Au2,cu2,rfl, -⟩:=hu2.form;have hgl:=hown.some_ (by intro e;rw [e] at hlen;simp at hlen;omega);obtain ⟨g',eg, -,hgl⟩:=hgl;injection eg with eg;injection eg with eg;subst eg;have HN0:=oH (show ∀ W,Below wr.heap.size wr W->zCo zOe B W (.slice (some ⟨g,0,none⟩) T.length c) T2 from fun W hW=>hown.below hW);have HCMP:=oH (fun W (hW:Below wr.heap.size wr W)=>zBz (y:=z1) (z:=z2) (hu1.below hW) (hu2.below hW) (hmem (m+1) oMx) (hmem m oMx))
   have KB:Hid (∀ W,Below wr.heap.size wr W->W.cell? ⟨g,(m+1)*2,none⟩=some (.slice Au1 (rk T2 (m+1)).length cu1)/\W.cell? ⟨g,(m+1)*2+1,none⟩=some (.int .i64 z1)/\W.cell? ⟨g,m*2,none⟩=some (.slice Au2 (rk T2 m).length cu2)/\W.cell? ⟨g,m*2+1,none⟩=some (.int .i64 z2)):=oH fun W hW=>⟨(hW.cell (p:=⟨g,(m+1)*2,none⟩) hgl).trans a1,(hW.cell (p:=⟨g,(m+1)*2+1,none⟩) hgl).trans a2,(hW.cell (p:=⟨g,m*2,none⟩) hgl).trans b1,(hW.cell (p:=⟨g,m*2+1,none⟩) hgl).trans b2⟩
   have HWz:=oH (Below.refl wr.heap.size wr).drew;have hsz:=hbel.size;have HBLz:=oH hbel;have hneg:=zJw (rk T2 (m+1)) (rk T2 m);have HINS:=oH hins;have HW2:=oH hwin;have HNX:=oH (fun (h:ltL (rk T2 (m+1)) (rk T2 m)=true)=>hins.step oMx hji oMx (by rw [Nat.add_sub_cancel];exact h));have HDN:=oH (fun (h:ltL (rk T2 (m+1)) (rk T2 m)=false)=>hins.done (.inr (by rw [Nat.add_sub_cancel];exact h)));rw [Nat.add_sub_cancel] at HNX;generalize (rk T2 (m+1)).length=l1 at *;generalize (rk T2 m).length=l2 at *;generalize zJu ltL (rk T2 (m+1)) (rk T2 m)=cz at *;generalize ltL (rk T2 (m+1)) (rk T2 m)=lb at *
   have hja:(a:Int)<(m:Int)+1:=by omega
   have i1:IntKind.i64.wrap ((m:Int)+1-1)=(m:Int):=by rw [Int.add_sub_cancel];exact IntWalk.i64_in _ oMx
   have i0:IntKind.i64.wrap (m:Int)=(m:Int):=IntWalk.i64_in _ oMx
   have i2:(0:Int)<=(m:Int)+1:=by omega
   have i3:(m:Int)+1<(T.length:Int):=by omega
   have i4:((m:Int)+1).toNat=m+1:=by omega
   have i5:(m:Int)<(T.length:Int):=by omega
   clear hown hwin hins hbel hu1 hu2 hmem a1 a2 b1 b2;rw [Int.natCast_succ];go_wp2_with fail;refine wp_region_held_drew (S:=(fun w'=>w'.cell? ⟨g,(m+1)*2,none⟩=some (.slice Au1 l1 cu1)/\w'.cell? ⟨g,(m+1)*2+1,none⟩=some (.int .i64 z1)/\w'.cell? ⟨g,m*2,none⟩=some (.slice Au2 l2 cu2)/\w'.cell? ⟨g,m*2+1,none⟩=some (.int .i64 z2))) (by kernel_rfl) (by exact KB.out _ HWz.out) (fun hHeld=>?_);refine tkH 0 ?_;refine tkH 1 ?_;refine tkH 2 ?_;refine tkH 3 ?_;refine tkG 4 ?_;refine tkG 5 ?_;refine tkG 6 ?_;refine tkG 7 ?_;refine tkG 8 ?_;refine tkG 9 ?_;refine tkG 10 ?_;refine tkG 11 ?_;refine tkG 12 ?_;refine tkG 13 ?_
   try simp only [Act.put,tkA,tkB,tkC]
   refine tkS 14 fun K hK=>?_
   go_simp
   (go_at_call 83;(with_reducible refine (HCMP.out _ HWz.out).mono ?_);rintro e wa ⟨rfl,hb⟩;have hw:Below wr.heap.size wr wa:=HWz.out.trans (hb.mono HWz.out.size);have HWa:=oH hw;clear hb hw)
   go_wp2_with fail;refine hK.out _ _ ?_ (fun hHeld=>?_)
   ·first|with_reducible exact KB.out _ HWa.out
   clear hK K
   try simp only [Act.put,tkA,tkB,tkC]
   refine tkG 15 ?_;refine tkH 16 ?_
   try simp only [Act.put,tkA,tkB,tkC]
   refine wpAnyH_done (by kernel_rfl) ?_ _;rw [hneg] at *;have HOa:=oH (HN0.out wa HWa.out);have HBa:=oH (HBLz.trans (HWa.mono (Nat.le_trans hB hsz)));obtain ⟨a1,a2,b1,b2⟩:=KB.out wa HWa.out;clear hneg KB HCMP HN0
   cases lb
   ·have E:=oH (HDN.out rfl);go_wp2_with fail;go_roundw
    ·exact ⟨i+1,T2,by go_num,oMx,HOa.out,HW2.out,by rw [HMIN2.out];exact E.out,HBa.out⟩
    simp [intOf];omega
   have E:=oH (HNX.out rfl)
   have hln:m+1<T2.length:=by omega
   have f1:=HOa.frz ((m+1)*2);have f2:=HOa.frz ((m+1)*2+1);have f3:=HOa.frz (m*2);have f4:=HOa.frz (m*2+1);have HSW:=oH (HOa.swap hln oMx a1 a2 b1 b2);have HWS:=oH (HW2.trans (Win.swp (a:=a) (b:=b) hln (show m<T2.length by omega) oMx oMx oMx oMx));go_wp2_with fail
   go_region
   all_goals go_wp2_with fail
   all_goals go_roundw
   ·exact ⟨m,_,by go_num,oMx,oMx,HSW.1,HWS.out,E.out,(HBa.trans HSW.2).drew⟩
   simp [intOf]
  obtain rfl:j=a:=by omega
  have E:=oH (hins.done (.inl rfl));have HN0:=oH hown;have HW2:=oH hwin;have HB2:=oH hbel
  have hja:¬(j:Int)<(j:Int):=by omega
  clear hown hwin hins hbel;go_wp2_with fail
  go_quiet (fail)
  go_wp2_with fail;go_roundw
  ·exact ⟨i+1,T2,by go_num,oMx,HN0.below (below_drewN bRx _),HW2.out,by rw [HMIN2.out];exact E.out,below_drewN HB2.out _⟩
  simp [intOf];omega
 have HMIN:=oH (show min i b=b by omega);go_wp2_with fail
 go_end0
 exact ⟨rfl,T1,HOWN.out,HWIN.out,by have:=HSRT.out;rw [HMIN.out] at this;exact this,HBEL.out⟩
end Go.Proofs.YtafflnognagadaaGreatDoor
