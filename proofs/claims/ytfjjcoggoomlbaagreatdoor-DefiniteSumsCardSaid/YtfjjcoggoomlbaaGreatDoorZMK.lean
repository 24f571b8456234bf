import Derived.Test.YtfjjcoggoomlbaaGreatDoorZMJ
set_option maxHeartbeats 16000000
set_option maxRecDepth 100000
set_option linter.unusedVariables false
set_option linter.unusedSimpArgs false
set_option linter.unusedSectionVars false
namespace Go.Proofs.YtfjjcoggoomlbaaGreatDoor
open Go.RowKit
structure zCs (rs:List zGe) (m n:Nat) (M:Nat→Nat→Rat):Prop where
 len:rs.length=m
 row:∀ r∈rs,r.ss.length=n
 cel:∀ i k,(hi:i<rs.length)→(hk:k<rs[i].ss.length)→rs[i].ss[k]=zYj (M i k)
 fit:∀ i k,i<m→k<n→zBp (M i k)
section
variable {rs:List zGe} {m n k0:Nat} {M N:Nat→Nat→Rat}
theorem zCs.rowAt (h:zCs rs m n M) {i:Nat} (hi:i<rs.length):rs[i].ss.length=n:=h.row _ (List.getElem_mem hi)
theorem zCs.fine (h:zCs rs m n M) (hm:m≤12) (hn:n≤12) (h0:m=0→n=0):zBn rs n:=by
 refine ⟨by rw [h.len];exact hm,hn,h.row,fun r hr s hs=>?_,fun e=>h0 (by rw [←h.len,e];rfl)⟩
 obtain ⟨i,hi,rfl⟩:=List.getElem_of_mem hr
 obtain ⟨k,hk,rfl⟩:=List.getElem_of_mem hs
 have hl:=h.rowAt hi
 have hf:=h.fit i k (by rw [←h.len];exact hi) oMx
 rw [h.cel i k hi hk]
 refine ⟨xEq hf,?_⟩
 rw [zYq]
 have:=zYv hf
 omega
theorem zCs.q (h:zCs rs m n M) {i k:Nat} (hi:i<m) (hk:k<n):zRn rs i k=M i k:=by
 have hi':i<rs.length:=by rw [h.len];exact hi
 have hk':k<rs[i].ss.length:=by rw [h.rowAt hi'];exact hk
 rw [zRo hi' hk',h.cel i k hi' hk',xEs (h.fit i k hi hk)]
theorem zCs.congr (h:zCs rs m n M) (e:∀ i k,i<m→k<n→M i k=N i k):zCs rs m n N:=by
 refine ⟨h.len,h.row,fun i k hi hk=>?_,fun i k hi hk=>by rw [←e i k hi hk];exact h.fit i k hi hk⟩
 have hl:=h.rowAt hi
 have:=h.len
 rw [h.cel i k hi hk,e i k oMx oMx]
theorem zCs.light (h:zCs rs m n M) (hm:m≤4) (hn:n≤4) (hk1:1≤k0) (hk:k0≤8) (hd:∀ i k,i<m→k<n→zAt k0 (M i k)):¬600<zNz rs n:=by
 have hlen:=h.len
 have hL:∀ l∈zRk rs,l.length≤4∧∀ q∈l,zAt k0 q:=fun l hl=>by
  obtain ⟨r,hr,rfl⟩:=List.mem_map.1 hl
  refine ⟨by rw [List.length_map,h.row r hr];exact hn,fun q hq=>?_⟩
  obtain ⟨s,hs,rfl⟩:=List.mem_map.1 hq
  obtain ⟨i,hi,rfl⟩:=List.getElem_of_mem hr
  obtain ⟨k,hk,rfl⟩:=List.getElem_of_mem hs
  have hl:=h.rowAt hi
  rw [h.cel i k hi hk,xEs (h.fit i k oMx oMx)]
  exact hd i k oMx oMx
 have hlL:(zRk rs).length=m:=by unfold zRk;rw [List.length_map,hlen]
 have hD:Dig (1+4*(4*k0)) (zRg rs):=by
  have h1:=zLd (a:=1) (d:=1) (m:=zRk rs) (by unfold Dig;decide) hL
  refine h1.mono ?_
  rw [hlL]
  have:m*(4*k0)≤4*(4*k0):=Nat.mul_le_mul_right _ hm
  omega
 have hQ:∀ i k,zAt k0 (zRn rs i k):=fun i k=>by
  by_cases hi:i<m
  ·by_cases hk:k<n
   ·rw [h.q hi hk];exact hd i k hi hk
   ·have h0:zRn rs i k=0:=by
     unfold zRn
     rw [List.getD_eq_getElem?_getD]
     have h9:((zRk rs).getD i []).length≤n:=by
      rw [List.getD_eq_getElem?_getD]
      rcases h2:(zRk rs)[i]? with _|l
      ·simp
      ·obtain ⟨r,hr,rfl⟩:=List.mem_map.1 (List.mem_of_getElem? h2)
       have:=h.row r hr
       simp
       omega
     rw [List.getElem?_eq_none oMx]
     rfl
    rw [h0]
    exact zMd.mono hk1
  ·have h0:zRn rs i k=0:=by
    unfold zRn
    rw [List.getD_eq_getElem?_getD (l:=zRk rs),List.getElem?_eq_none (l:=zRk rs) oMx]
    rfl
   rw [h0]
   exact zMd.mono hk1
 have hdig:digT (zRg rs) (zRl rs) rs.length n≤1+17*k0:=by
  refine zSl ?_ fun i k hi hk=>?_
  ·have:=zMb (k:=4*(4*k0)) (by rw [Nat.add_comm];exact hD)
   omega
  ·have h1:Dig (k0+4*(4*k0)+1) (zRl rs i k):=by
    have:=zIs hD (hQ i k)
    rw [show k0+4*(4*k0)+1=k0+(1+4*(4*k0)) by omega]
    exact this
   have:=zMb h1
   show nd (zRl rs i k)≤_
   omega
 unfold zNz
 have h2:max rs.length n≤4:=by omega
 have h3:=Nat.mul_le_mul h2 hdig
 omega
end
def celQ (qss:List (List Rat)) (i k:Nat):Rat:=(qss.getD i []).getD k 0
section
variable {rs:List zGe} {m n:Nat} {M:Nat→Nat→Rat}
end
def lowZ (M:Nat→Nat→Rat) (r:Nat):Nat→Nat→Rat:=fun a c=>if a<r∧c<a then 0 else M a c
def plusM (M:Nat→Nat→Rat) (i k:Nat) (f:Rat):Nat→Nat→Rat:=upd M i (fun c=>M i c+f*M k c)
structure zGc (B:Nat) (w:World) (A:Option Addr) (ss:List ByteArray):Prop where
 s:zGo w A ss
 lo:∀ g off x,A=some ⟨g,off,x⟩→B≤g∧g<w.heap.size
section
variable {B b:Nat} {w w':World} {A:Option Addr} {ss:List ByteArray}
theorem zGc.of_own {e c:Nat} (h:w.ownsRow B e 1 (.slice A ss.length c) ss.length (sv ss)):zGc B w A ss:=by
 obtain ⟨A',c',e1, -,hs,hl⟩:=zVf h
 injection e1 with e1
 subst e1
 refine ⟨hs,fun g off x e2=>?_⟩
 rcases h.2 with ⟨hv,h0⟩|⟨g0,cap,cur,hv,hB,_⟩
 ·rw [e2] at hv
  injection hv with hv
  cases hv
 ·rw [e2] at hv
  injection hv with hv
  injection hv with hv
  injection hv with hv
  subst hv
  exact h.lt g (by rw [e2];rfl)
theorem zGc.up (h:zGc B w A ss) (hs:w.heap.size≤w'.heap.size) (hk:∀ i,B≤i→i<w.heap.size→w'.heap[i]? = w.heap[i]?):zGc B w' A ss:=by
 refine ⟨fun hn=>?_,fun g off x e=>by have:=h.lo g off x e;omega⟩
 obtain ⟨g,off,e,hg,hc⟩:=h.s hn
 refine ⟨g,off,e,oMx,fun i hi=>?_⟩
 rw [World.cell?_of_block (w:=w) (hk g (h.lo _ _ _ e).1 hg)]
 exact hc i hi
theorem zGc.below (h:zGc B w A ss) (hb:Below w.heap.size w w'):zGc B w' A ss:=h.up hb.size fun i _ hi=>hb.block i hi
theorem zGc.grown (h:zGc B w A ss) (hg:w.grownBy w' (some b)) (hb:b<B):zGc B w' A ss:=h.up hg.size fun i h1 h2=>hg.block i h2 (fun e=>by injection e with e;omega)
theorem zGc.mono {B':Nat} (h:zGc B w A ss) (hb:B'≤B):zGc B' w A ss:=⟨h.s,fun g off x e=>by have:=h.lo g off x e;omega⟩
theorem zGc.over (h:zGc B w A ss) {p:Addr} {u:Value} (hc:w.cell? p=some u) (hu:∀ s,u ≠ .string s) (x:Value):zGc B (w.setCell p x) A ss:=by
 refine ⟨fun hn=>?_,fun g off x e=>by have:=h.lo g off x e;simpa using this⟩
 obtain ⟨g,off,e,hg,hk⟩:=h.s hn
 refine ⟨g,off,e,by simpa using hg,fun i hi=>?_⟩
 rw [World.cell?_setCell_other]
 ·exact hk i hi
 ·intro e2
  subst e2
  rw [hk i hi] at hc
  injection hc with hc
  exact hu _ hc.symm
theorem zGc.far (h:zGc B w A ss) {g:Nat} (hg:∀ off x,A≠some ⟨g,off,x⟩) (j:Nat) (x:Value):zGc B (w.setCell ⟨g,j,none⟩ x) A ss:=by
 refine ⟨fun hn=>?_,fun g off x e=>by have:=h.lo g off x e;simpa using this⟩
 obtain ⟨g',off,e,hg',hk⟩:=h.s hn
 refine ⟨g',off,e,by simpa using hg',fun i hi=>?_⟩
 rw [World.cell?_setCell_other]
 ·exact hk i hi
 ·intro e2
  injection e2 with e3
  exact hg off none (by rw [e,e3])
end
structure zGx (B:Nat) (w:World) (V:Value) (rs:List zGe):Prop where
 o:w.ownsRow B 29 1 V rs.length (zYc rs)
 i:∀ r∈rs,zGc B w r.ad r.ss
section
variable {B b:Nat} {w w':World} {V:Value} {rs:List zGe}
theorem zCu.topM (h:zCu B w V rs):zGx B w V rs:=⟨h.o,fun r hr=>zGc.of_own (h.i r hr)⟩
theorem zGx.below (h:zGx B w V rs) (hb:Below w.heap.size w w'):zGx B w' V rs:=⟨zUu h.o hb,fun r hr=>(h.i r hr).below hb⟩
theorem zGx.alloc (h:zGx B w V rs) (o:Obj):zGx B (w.alloc o) V rs:=h.below (bRx.alloc lRx o)
theorem zGx.grown (h:zGx B w V rs) (hg:w.grownBy w' (some b)) (hb:b<B):zGx B w' V rs:=⟨zUy h.o hg hb,fun r hr=>(h.i r hr).grown hg hb⟩
theorem zGx.mono {B':Nat} (h:zGx B w V rs) (hb:B'≤B):zGx B' w V rs:=⟨zUt h.o hb,fun r hr=>(h.i r hr).mono hb⟩
theorem zGx.read {A:Option Addr} {c:Nat} (h:zGx B w (.slice A rs.length c) rs):zCt w A rs:=⟨zUs h.o,fun r hr=>(h.i r hr).s⟩
theorem zYf (rs:List zGe) (i:Nat) (r:zGe):zYc (rs.set i r)=(zYc rs).set i (.slice r.ad r.ss.length r.cp):=by simp [zYc,List.map_set]
theorem zGx.top {g c:Nat} (h:zGx B w (.slice (some ⟨g,0,none⟩) rs.length c) rs) {i:Nat} (hi:i<rs.length):w.cell? ⟨g,i,none⟩=some (.slice rs[i].ad rs[i].ss.length rs[i].cp)∧w.frozen? ⟨g,i,none⟩=false:=by
 refine ⟨?_,h.o.frozenAt i⟩
 rw [h.o.cellAt i oMx,zYd hi]
theorem zGx.set {g c:Nat} (h:zGx B w (.slice (some ⟨g,0,none⟩) rs.length c) rs) {i:Nat} (hi:i<rs.length) {r:zGe} (hr:zGc B w r.ad r.ss):zGx B (w.setCell ⟨g,i,none⟩ (.slice r.ad r.ss.length r.cp)) (.slice (some ⟨g,0,none⟩) rs.length c) (rs.set i r):=by
 have hk:=(h.top hi).1
 refine ⟨?_,fun a ha=>?_⟩
 ·rw [List.length_set,zYf]
  exact (h.o.stored i _).1
 ·rcases List.mem_or_eq_of_mem_set ha with h1|rfl
  ·exact (h.i a h1).over hk (fun s e=>by cases e) _
  ·exact hr.over hk (fun s e=>by cases e) _
end
theorem xCg {w:World} {b off:Nat} {ss:List ByteArray} (h:zGo w (some ⟨b,off,none⟩) ss):∀ (j:Nat) (u:Value),(sv ss)[j]? = some u→w.cell? ((⟨b,off,none⟩:Addr).add j)=some u:=fun j u hj=>by
 have hadd:(⟨b,off,none⟩:Addr).add j=⟨b,off+j,none⟩:=by unfold Addr.add;split<;>simp_all
 have hj':j<ss.length:=by have:=(List.getElem?_eq_some_iff.1 hj).1;rwa [xDc] at this
 obtain ⟨b',off',e, -,hc⟩:=h (by intro e;subst e;simp at hj')
 injection e with e
 injection e with e1 e2
 subst e1 e2
 rw [hadd,hc j hj']
 unfold sv at hj
 rw [List.getElem?_map,List.getElem?_eq_getElem hj'] at hj
 exact hj
theorem sv_one {ss:List ByteArray}:∀ u∈sv ss,u.oneCell'=true:=fun u hu=>by
 obtain ⟨s, -,rfl⟩:=List.mem_map.1 hu
 rfl
theorem zGc.nil (B:Nat) (w:World):zGc B w none []:=⟨fun h=>absurd rfl h,fun g off x e=>by cases e⟩
structure UpS (B:Nat) (W0 wr:World) (U cU:Nat) (rs:List zGe) (r g cp:Nat) (ts:List ByteArray):Prop where
 top:wr.ownsRow B 29 1 (.slice (some ⟨U,0,none⟩) rs.length cU) rs.length (zYc (rs.set r ⟨some ⟨g,0,none⟩,cp,ts⟩))
 row:wr.ownsRow B 39 1 (.slice (some ⟨g,0,none⟩) ts.length cp) ts.length (sv ts)
 oth:∀ j,(hj:j<rs.length)→j≠r→zGc B wr rs[j].ad rs[j].ss∧∀ off x,rs[j].ad≠some ⟨g,off,x⟩
 bel:Below B W0 wr
theorem sv_set (ss:List ByteArray) (i:Nat) (s:ByteArray):sv (ss.set i s)=(sv ss).set i (.string s):=by simp [sv,List.map_set]
theorem xDb {ss:List ByteArray} {i:Nat} (h:i<ss.length):(sv ss)[i]? = some (.string ss[i]):=by simp [sv,h]
section
variable {B:Nat} {W0 wr w':World} {U cU:Nat} {rs:List zGe} {r g cp:Nat} {ts:List ByteArray}
theorem UpS.put (h:UpS B W0 wr U cU rs r g cp ts) (c:Nat) (s:ByteArray):UpS B W0 (wr.setCell ⟨g,c,none⟩ (.string s)) U cU rs r g cp (ts.set c s):=by
 have h1:=h.row.stored c (.string s)
 rw [←sv_set] at h1
 have ht:=h.top.kept h1.2 (zUz h.top h.row dCx)
 refine ⟨?_,by rw [List.length_set];exact h1.1,fun j hj hne=>⟨(h.oth j hj hne).1.far (h.oth j hj hne).2 c _,(h.oth j hj hne).2⟩,h.bel.setCell (p:=⟨g,c,none⟩) (h.row.lt g rfl).1 _⟩
 rw [zYf] at ht ⊢
 simp only [List.length_set]
 exact ht
theorem UpS.below (h:UpS B W0 wr U cU rs r g cp ts) (hB:B≤wr.heap.size) (hb:Below wr.heap.size wr w'):UpS B W0 w' U cU rs r g cp ts :=
 ⟨zUu h.top hb,zUu h.row hb,fun j hj hne=>⟨(h.oth j hj hne).1.below hb,(h.oth j hj hne).2⟩,h.bel.trans (hb.mono hB)⟩
theorem UpS.done (h:UpS B W0 wr U cU rs r g cp ts):zGx B wr (.slice (some ⟨U,0,none⟩) rs.length cU) (rs.set r ⟨some ⟨g,0,none⟩,cp,ts⟩):=by
 refine ⟨by rw [List.length_set];exact h.top,fun a ha=>?_⟩
 obtain ⟨j,hj,rfl⟩:=List.getElem_of_mem ha
 have hj':j<rs.length:=by simpa using hj
 by_cases e:j=r
 ·subst e
  rw [List.getElem_set_self]
  exact zGc.of_own h.row
 ·rw [List.getElem_set_ne (Ne.symm e)]
  exact (h.oth j hj' e).1
theorem UpS.start {c:Nat} (h:zGx B wr (.slice (some ⟨U,0,none⟩) rs.length cU) rs) (hr:r<rs.length) (hown:w'.ownsRow wr.heap.size 39 1 (.slice (some ⟨g,0,none⟩) ts.length cp) ts.length (sv ts)) (hb:Below wr.heap.size wr w') (hB:B≤wr.heap.size) (hbel:Below B W0 wr) :
  UpS B W0 (w'.setCell ⟨U,r,none⟩ (.slice (some ⟨g,0,none⟩) ts.length cp)) U cU rs r g cp ts:=by
 have h1:=h.below hb
 have hg:=(hown.lt g rfl).1
 have h2:=h1.set hr (r:=⟨some ⟨g,0,none⟩,cp,ts⟩) ((zGc.of_own hown).mono hB)
 have hU:=(h.o.lt U rfl)
 have ho2:=hown.kept (h1.o.stored r (.slice (some ⟨g,0,none⟩) ts.length cp)).2 (zUz hown h1.o dCx)
 refine ⟨by have:=h2.o;rw [List.length_set] at this;exact this,zUt ho2 hB,fun j hj hne=>⟨?_,fun off x e=>?_⟩,(hbel.trans (hb.mono hB)).setCell (p:=⟨U,r,none⟩) hU.1 _⟩
 ·have:=h2.i rs[j] (by
   rw [List.mem_iff_getElem]
   exact ⟨j,by simpa using hj,List.getElem_set_ne (Ne.symm hne) _⟩)
  exact this
 ·have:=(h.i _ (List.getElem_mem hj)).lo _ _ _ e
  omega
end
theorem zSb (a b:Rat) (w:World) (ha:zBp a) (hb:zBp b) (hf:zBp (a*b)):Calls Tryz.prog 23 #[.string (zYj a),.string (zYj b)] w fun e w'=>e = .returned (.tuple #[.string (zYj (a*b)),.int .i64 0])∧Below w.heap.size w w':=by
 have h:=zDq a b w ha hb
 rw [zUn hf,zUl hf] at h
 exact h
theorem xDp {x y:ByteArray} (h:x≠y):(x.toList==y.toList)=false:=by
 rw [beq_eq_false_iff_ne,Lib.toList_data,Lib.toList_data]
 intro e
 apply h
 cases x
 cases y
 simp only at e
 rw [ByteArray.mk.injEq,←Array.toList_inj]
 exact e
theorem Same_of (A B:Option Addr) (xs ys:List ByteArray) (c d:Nat) (w:World) (h:zGo w A xs) (h2:zGo w B ys) (hl:xs.length≤1000) (hl2:ys.length≤1000):Calls Tryz.prog 29 #[.slice A xs.length c,.slice B ys.length d] w fun e w'=>e = .returned (.bool (decide (xs=ys)))∧Below w.heap.size w w':=by
 have HC:=oH h
 have HD:=oH h2
 clear h h2
 by_cases hll:xs.length=ys.length
 ·have HLL:=oH hll
  have hn:((xs.length:Int) != (ys.length:Int))=false:=by rw [hll];simp
  have hll2:xs.length≤ys.length:=by omega
  clear hll
  go_enter Tryz.func29,Tryz.ntmps29
  go_wp2_with fail
  clear hn
  go_loopw [13] (fun iv wr=>∃ k m:Nat,iv = .int .i64 (k:Int)∧k≤xs.length∧xs.take k=ys.take k∧wr=w.drewN m) (fun iv _=>xs.length-(intOf iv).toNat)
  case atStart=>exact ⟨0,0,rfl,oLx,rfl,rfl⟩
  case round =>
   obtain ⟨k,m,rfl,hk,hall,rfl⟩:=hrel
   have HALL:=oH hall
   clear hall
   by_cases hlt:k<xs.length
   ·obtain ⟨b,off,rfl,hb,hc⟩:=HC.out (by intro e;subst e;simp at hlt)
    obtain ⟨b',off',rfl,hb',hc'⟩:=HD.out (by intro e;rw [e] at hll2;simp only [List.length_nil] at hll2;omega)
    have hky:k<ys.length:=by omega
    have hck:=hc k hlt
    have hck':=hc' k hky
    have HN:=oH (fun (h:xs[k]≠ys[k])=>show decide (xs=ys)=false from decide_eq_false fun e=>h (by simp only [e]))
    have HS:=oH (fun (h:xs[k]=ys[k])=>show xs.take (k+1)=ys.take (k+1) by
     rw [List.take_succ_eq_append_getElem hlt,List.take_succ_eq_append_getElem hky,HALL.out,h])
    generalize xs[k]=x at *
    generalize ys[k]=y at *
    clear hc hc'
    by_cases hxy:x=y
    ·have E:=oH (HS.out hxy)
     subst hxy
     clear HS HN
     go_wp2_with fail
     go_quiet (fail)
     go_wp2_with fail
     go_roundw
     case rel=>exact ⟨k+1,_,by go_num,oMx,E.out,rfl⟩
     case measure=>simp [intOf];omega
    ·have E:=oH (HN.out hxy)
     have hne:(x.toList==y.toList)=false:=xDp hxy
     clear HS HN
     go_wp2_with fail
     go_quiet (fail)
     go_wp2_with fail
     go_ret
     exact ⟨by rw [E.out];rfl,below_drewN (below_drewN bRx _) _⟩
   ·have E:=oH (show decide (xs=ys)=true from decide_eq_true (by
     have h1:=HALL.out
     have h2:=HLL.out
     rw [List.take_of_length_le oMx,List.take_of_length_le oMx] at h1
     exact h1))
    go_wp2_with fail
    go_ret
    exact ⟨by rw [E.out];rfl,below_drewN bRx _⟩
 ·have E:=oH (show decide (xs=ys)=false from decide_eq_false fun e=>hll (by rw [e]))
  have hn:((xs.length:Int) != (ys.length:Int))=true:=by rw [bne,Bool.not_eq_true',beq_eq_false_iff_ne];omega
  clear hll
  go_enter Tryz.func29,Tryz.ntmps29
  go_wp2_with fail
  go_ret
  exact ⟨by rw [E.out];rfl,bRx⟩
theorem t_d {n:Nat} (h:n<10):zYj ((n:Int):Rat)=⟨#[UInt8.ofNat (48+n)]⟩:=by
 rw [zYl]
 unfold str
 rw [zOj h]
theorem t_m2:zYj (-2)=⟨#[45,50]⟩:=by
 rw [show (-2:Rat)=((-2:Int):Rat) from rfl,zYl]
 unfold str
 rw [show (-2:Int) = -((2:Nat):Int) from rfl,itoa_nd dCx dCx]
 rfl
theorem xAz {z:Int} (h:z.natAbs<1000000000):zBp (z:Rat):=zMx (by rw [Rat.num_intCast];exact h) (by rw [Rat.den_intCast];decide)
def xEh (a b c d:Int) (i k:Nat):Int:=if i=0 then (if k=0 then a else if k=1 then b else 0) else if i=1 then (if k=0 then c else if k=1 then d else 0) else 0
def zXz (A0 A1:Option Addr) (c0 c1:Nat) (a b c d:Nat):List zGe:=[⟨A0,c0,[⟨#[UInt8.ofNat (48+a)]⟩,⟨#[UInt8.ofNat (48+b)]⟩]⟩,⟨A1,c1,[⟨#[UInt8.ofNat (48+c)]⟩,⟨#[UInt8.ofNat (48+d)]⟩]⟩]
section
variable {A0 A1:Option Addr} {c0 c1 a b c d:Nat} (ha:a<10) (hb:b<10) (hc:c<10) (hd:d<10)
include ha hb hc hd
theorem zYb:zCs (zXz A0 A1 c0 c1 a b c d) 2 2 (fun i k=>(xEh a b c d i k:Rat)):=by
 refine ⟨rfl,fun r hr=>?_,fun i k hi hk=>?_,fun i k hi hk=>?_⟩
 ·simp [zXz] at hr
  rcases hr with rfl|rfl<;>rfl
 ·have hi':i<2:=hi
  have h2:i=0∨i=1:=by omega
  rcases h2 with rfl|rfl
  ·have hk':k<2:=hk
   have h3:k=0∨k=1:=by omega
   rcases h3 with rfl|rfl
   ·exact (t_d ha).symm
   ·exact (t_d hb).symm
  ·have hk':k<2:=hk
   have h3:k=0∨k=1:=by omega
   rcases h3 with rfl|rfl
   ·exact (t_d hc).symm
   ·exact (t_d hd).symm
 ·refine xAz ?_
  unfold xEh
  split<;>split<;>(try split)<;>(try split)<;>omega
theorem zYa:¬600<zNz (zXz A0 A1 c0 c1 a b c d) 2:=(zYb ha hb hc hd).light (k0:=1) dCx dCx dCx dCx fun i k _ _=>by
 refine zAt.ofInt ?_ dCx
 unfold Dig xEh
 split<;>split<;>(try split)<;>(try split)<;>omega
end
def solE (i k:Nat):Int:=if k=2 then (if i<2 then 1 else 0) else xEh 2 0 0 4 i k
theorem zQv (W:World) (A B C D E F:Value):Below W.heap.size W (((W.alloc (.cells #[A,B] 39)).alloc (.cells #[C,D] 39)).alloc (.cells #[E,F] 29)):=((bA).alloc sMx _).alloc (by simp;omega) _
theorem zQw (W:World) (a b c d:Nat):zCt (((W.alloc (.cells #[.string ⟨#[UInt8.ofNat (48+a)]⟩,.string ⟨#[UInt8.ofNat (48+b)]⟩] 39)).alloc (.cells #[.string ⟨#[UInt8.ofNat (48+c)]⟩,.string ⟨#[UInt8.ofNat (48+d)]⟩] 39)).alloc (.cells #[.slice (some ⟨W.heap.size,0,none⟩) 2 2,.slice (some ⟨W.heap.size+1,0,none⟩) 2 2] 29)) (some ⟨W.heap.size+1+1,0,none⟩) (zXz (some ⟨W.heap.size,0,none⟩) (some ⟨W.heap.size+1,0,none⟩) 2 2 a b c d):=by
 obtain ⟨sa,hsa⟩:∃ s:ByteArray,⟨#[UInt8.ofNat (48+a)]⟩=s:=⟨_,rfl⟩
 obtain ⟨sb,hsb⟩:∃ s:ByteArray,⟨#[UInt8.ofNat (48+b)]⟩=s:=⟨_,rfl⟩
 obtain ⟨sc,hsc⟩:∃ s:ByteArray,⟨#[UInt8.ofNat (48+c)]⟩=s:=⟨_,rfl⟩
 obtain ⟨sd,hsd⟩:∃ s:ByteArray,⟨#[UInt8.ofNat (48+d)]⟩=s:=⟨_,rfl⟩
 unfold zXz
 rw [hsa,hsb,hsc,hsd]
 have h0:=((Blk.new W 39 [.string sa,.string sb]).alloc (.cells #[.string sc,.string sd] 39)).alloc (.cells #[.slice (some ⟨W.heap.size,0,none⟩) 2 2,.slice (some ⟨W.heap.size+1,0,none⟩) 2 2] 29)
 have h1:=(Blk.new' (w:=W.alloc (.cells #[.string sa,.string sb] 39)) (g:=W.heap.size+1) sMx 39 [.string sc,.string sd]).alloc (.cells #[.slice (some ⟨W.heap.size,0,none⟩) 2 2,.slice (some ⟨W.heap.size+1,0,none⟩) 2 2] 29)
 have h2:=Blk.new' (w:=(W.alloc (.cells #[.string sa,.string sb] 39)).alloc (.cells #[.string sc,.string sd] 39)) (g:=W.heap.size+1+1) sMx 29 [.slice (some ⟨W.heap.size,0,none⟩) 2 2,.slice (some ⟨W.heap.size+1,0,none⟩) 2 2]
 refine ⟨fun _=>⟨W.heap.size+1+1,0,rfl,h2.lt,fun i hi=>?_⟩,fun r hr=>?_⟩
 ·rw [Nat.zero_add]
  refine h2.at_ ?_
  have h9:i<2:=hi
  have h8:i=0∨i=1:=by omega
  rcases h8 with rfl|rfl<;>rfl
 ·have h9:r=⟨some ⟨W.heap.size,0,none⟩,2,[sa,sb]⟩∨r=⟨some ⟨W.heap.size+1,0,none⟩,2,[sc,sd]⟩:=by simpa using hr
  rcases h9 with rfl|rfl
  ·exact zGo.two h0
  ·exact zGo.two h1
theorem rows_rep (n:Nat):zYc (List.replicate n (zGe.mk none 0 []))=(madeCells #[.slice none 0 0] (n*1)).toList:=by
 apply List.ext_getElem?
 intro j
 by_cases hj:j<n
 ·rw [zYd (by simpa using hj)]
  simp [madeCells,hj,Nat.mod_one]
 ·rw [List.getElem?_eq_none (by rw [zYe];simp;omega),List.getElem?_eq_none (by simp [madeCells];omega)]
theorem strs_rep (n:Nat):sv (List.replicate n ⟨#[]⟩)=(madeCells #[.string ⟨#[]⟩] (n*1)).toList:=by
 apply List.ext_getElem?
 intro j
 by_cases hj:j<n
 ·rw [xDb (by simpa using hj)]
  simp [madeCells,hj,Nat.mod_one]
 ·rw [List.getElem?_eq_none (by rw [xDc];simp;omega),List.getElem?_eq_none (by simp [madeCells];omega)]
theorem zZj (n:Nat) (hn:n≤1000000) (w:World):(Instr.makeSlice 27 (.int .i64 (n:Int)) (.int .i64 (n:Int))).run Tryz.prog w = .ok (.slice (some ⟨w.heap.size,0,none⟩) n n) (w.alloc (.cells (zYc (List.replicate n (zGe.mk none 0 []))).toArray 29)):=by
 obtain ⟨i0,hi,hz0,hz1,hz2⟩:=info_parts Tryz.infoRats
 have hr:=run_make (P:=Tryz.prog) w 27 29 i0 (.slice none 0 0) Tryz.underlying27 hi hz0 .i64 .i64 n n oMx (Int.le_refl _) (by rw [hz2];omega) oMx
 have hm:madeCells (Value.slice none 0 0).cells (n*1)=(zYc (List.replicate n (zGe.mk none 0 []))).toArray:=by
  rw [rows_rep];rfl
 simp only [Int.toNat_natCast,hz1,hm] at hr
 exact hr
theorem zZk (n:Nat) (hn:n≤1000000) (w:World):(Instr.makeSlice 29 (.int .i64 (n:Int)) (.int .i64 (n:Int))).run Tryz.prog w = .ok (.slice (some ⟨w.heap.size,0,none⟩) n n) (w.alloc (.cells (sv (List.replicate n ⟨#[]⟩)).toArray 39)):=by
 obtain ⟨i0,hi,hz0,hz1,hz2⟩:=info_parts Tryz.infoRat
 have hr:=run_make (P:=Tryz.prog) w 29 39 i0 (.string ⟨#[]⟩) Tryz.underlying29 hi hz0 .i64 .i64 n n oMx (Int.le_refl _) (by rw [hz2];omega) oMx
 have hm:madeCells (Value.string ⟨#[]⟩).cells (n*1)=(sv (List.replicate n ⟨#[]⟩)).toArray:=by
  rw [strs_rep];rfl
 simp only [Int.toNat_natCast,hz1,hm] at hr
 exact hr
theorem zRd (w:World) (n:Nat) (hn:n≤1000000):(w.alloc (.cells (zYc (List.replicate n (zGe.mk none 0 []))).toArray 29)).ownsRow w.heap.size 29 1 (.slice (some ⟨w.heap.size,0,none⟩) n n) n (zYc (List.replicate n (zGe.mk none 0 []))) :=
 ⟨by rw [zYe];simp,.inr ⟨w.heap.size,n,_,rfl,lRx,heap_alloc_new w _,lRx,by unfold maxLen;omega,by simp [zYe],by rw [List.take_of_length_le (by simp [zYe])]⟩⟩
theorem zRe (w:World) (n:Nat) (hn:n≤1000000):(w.alloc (.cells (sv (List.replicate n ⟨#[]⟩)).toArray 39)).ownsRow w.heap.size 39 1 (.slice (some ⟨w.heap.size,0,none⟩) n n) n (sv (List.replicate n ⟨#[]⟩)) :=
 ⟨by rw [xDc];simp,.inr ⟨w.heap.size,n,_,rfl,lRx,heap_alloc_new w _,lRx,by unfold maxLen;omega,by simp [xDc],by rw [List.take_of_length_le (by simp [xDc])]⟩⟩
def RetMx (w:World) (m n:Nat) (M:Nat→Nat→Rat) (e:Ending) (w':World):Prop :=
 (∃ A c rs,e = .returned (.tuple #[.slice A m c,.int .i64 0])∧zCs rs m n M∧zGx w.heap.size w' (.slice A m c) rs∧Below w.heap.size w w') ∨
 ((∃ i k,i<m∧k<n∧¬zBp (M i k))∧e = .returned (.tuple #[.slice none 0 0,.int .i64 3])∧Below w.heap.size w w')
structure BuiA (B:Nat) (W0 wr:World) (U m n:Nat) (M:Nat→Nat→Rat) (i:Nat) (rs:List zGe):Prop where
 top:zGx B wr (.slice (some ⟨U,0,none⟩) rs.length m) rs
 len:rs.length=m
 row:∀ j,(h:j<rs.length)→j<i→rs[j].ss.length=n∧∀ k,(hk:k<rs[j].ss.length)→rs[j].ss[k]=zYj (M j k)
 fit:∀ j k,j<i→k<n→zBp (M j k)
 bel:Below B W0 wr
 B0:B≤W0.heap.size
structure BuiB (B:Nat) (W0 wr:World) (U m n:Nat) (M:Nat→Nat→Rat) (i k:Nat) (rs:List zGe) (g cp:Nat) (ts:List ByteArray):Prop where
 up:UpS B W0 wr U m rs i g cp ts
 len:rs.length=m
 im:i<m
 tl:ts.length=n
 row:∀ j,(h:j<rs.length)→j<i→rs[j].ss.length=n∧∀ k,(hk:k<rs[j].ss.length)→rs[j].ss[k]=zYj (M j k)
 fit:∀ j k,j<i→k<n→zBp (M j k)
 cel:∀ c,(h:c<ts.length)→c<k→ts[c]=zYj (M i c)
 fit2:∀ c,c<k→zBp (M i c)
 B0:B≤W0.heap.size
section
variable {B U m n i k g cp:Nat} {W0 wr w':World} {M:Nat→Nat→Rat} {rs:List zGe} {ts:List ByteArray}
theorem BuiA.start (w:World) (m n:Nat) (M:Nat→Nat→Rat) (hm:m≤1000000):BuiA w.heap.size w (w.alloc (.cells (zYc (List.replicate m (zGe.mk none 0 []))).toArray 29)) w.heap.size m n M 0 (List.replicate m (zGe.mk none 0 [])):=by
 refine ⟨⟨?_,fun r hr=>?_⟩,by simp,fun j h hj=>absurd hj oMx,fun j k hj=>absurd hj oMx,bA,lRx⟩
 ·rw [List.length_replicate]
  exact zRd w m hm
 ·rw [(List.mem_replicate.1 hr).2]
  exact zGc.nil _ _
theorem BuiA.row_ (h:BuiA B W0 wr U m n M i rs) (hi:i<m) (hn:n≤1000000):BuiB B W0 ((wr.alloc (.cells (sv (List.replicate n ⟨#[]⟩)).toArray 39)).setCell ⟨U,i,none⟩ (.slice (some ⟨wr.heap.size,0,none⟩) n n)) U m n M i 0 rs wr.heap.size n (List.replicate n ⟨#[]⟩):=by
 have hB:B≤wr.heap.size:=Nat.le_trans h.B0 h.bel.size
 have h1:=UpS.start (ts:=List.replicate n (⟨#[]⟩:ByteArray)) (cp:=n) (W0:=W0) (r:=i) (g:=wr.heap.size) h.top (by rw [h.len];exact hi) (c:=m) (by rw [List.length_replicate];exact zRe wr n hn) (bA) hB h.bel
 rw [List.length_replicate] at h1
 exact ⟨h1,h.len,hi,by simp,h.row,h.fit,fun c _ hc=>absurd hc oMx,fun c hc=>absurd hc oMx,h.B0⟩
theorem BuiB.below (h:BuiB B W0 wr U m n M i k rs g cp ts) (hb:Below wr.heap.size wr w'):BuiB B W0 w' U m n M i k rs g cp ts :=
 ⟨h.up.below (Nat.le_trans h.B0 h.up.bel.size) hb,h.len,h.im,h.tl,h.row,h.fit,h.cel,h.fit2,h.B0⟩
theorem BuiB.put (h:BuiB B W0 wr U m n M i k rs g cp ts) (hf:zBp (M i k)):BuiB B W0 (wr.setCell ⟨g,k,none⟩ (.string (zYj (M i k)))) U m n M i (k+1) rs g cp (ts.set k (zYj (M i k))):=by
 refine ⟨h.up.put k _,h.len,h.im,by rw [List.length_set];exact h.tl,h.row,h.fit,fun c hc hck=>?_,fun c hc=>?_,h.B0⟩
 ·by_cases e:c=k
  ·subst e
   rw [List.getElem_set_self]
  ·rw [List.getElem_set_ne (Ne.symm e)]
   exact h.cel c (by simpa using hc) oMx
 ·by_cases e:c=k
  ·subst e;exact hf
  ·exact h.fit2 c oMx
theorem BuiB.top (h:BuiB B W0 wr U m n M i k rs g cp ts):wr.cell? ⟨U,i,none⟩=some (.slice (some ⟨g,0,none⟩) n cp)∧wr.frozen? ⟨U,i,none⟩=false∧wr.frozen? ⟨g,k,none⟩=false∧∀ hk:k<ts.length,wr.cell? ⟨g,k,none⟩=some (.string ts[k]):=by
 refine ⟨?_,h.up.top.frozenAt i,h.up.row.frozenAt k,fun hk=>(h.up.row.cellAt k oMx).trans (xDb hk)⟩
 have hi:i<rs.length:=by rw [h.len];exact h.im
 rw [h.up.top.cellAt i oMx,zYd (by rw [List.length_set];exact hi),List.getElem_set_self]
 simp only [h.tl]
theorem BuiB.next (h:BuiB B W0 wr U m n M i k rs g cp ts) (hk:n≤k):BuiA B W0 wr U m n M (i+1) (rs.set i ⟨some ⟨g,0,none⟩,cp,ts⟩):=by
 have hd:=h.up.done
 refine ⟨by rw [List.length_set];exact hd,by rw [List.length_set];exact h.len,fun j hj hji=>?_,fun j c hj hc=>?_,h.up.bel,h.B0⟩
 ·by_cases e:j=i
  ·subst e
   simp only [List.getElem_set_self]
   exact ⟨h.tl,fun c hc=>h.cel c hc (by have:=h.tl;omega)⟩
  ·simp only [List.getElem_set_ne (Ne.symm e)]
   exact h.row j (by simpa using hj) oMx
 ·by_cases e:j=i
  ·subst e;exact h.fit2 c oMx
  ·exact h.fit j c oMx hc
theorem BuiA.done (h:BuiA B W0 wr U m n M i rs) (hi:m≤i):zCs rs m n M∧zGx B wr (.slice (some ⟨U,0,none⟩) m m) rs:=by
 have hl:=h.len
 refine ⟨⟨hl,fun r hr=>?_,fun j k hj hk=>(h.row j hj oMx).2 k hk,fun j k hj hk=>h.fit j k oMx hk⟩,?_⟩
 ·obtain ⟨j,hj,rfl⟩:=List.getElem_of_mem hr
  exact (h.row j hj oMx).1
 ·have:=h.top
  rw [hl] at this
  exact this
end
end Go.Proofs.YtfjjcoggoomlbaaGreatDoor
