import Derived.Test.YtfjjcoggoomlbaaGreatDoorZNQ
set_option maxHeartbeats 16000000
set_option maxRecDepth 100000
set_option linter.unusedVariables false
set_option linter.unusedSimpArgs false
set_option linter.unusedSectionVars false
namespace Go.Proofs.YtfjjcoggoomlbaaGreatDoor
open Go.RowKit
section
variable {P:Program} (w:World)
theorem zZt (t ty:TypeId) (base:Nat) (e:TypeId) (i:TypeInfo) (z:Value) (size bytes:Nat) (ht:P.underlying t=some (.slice e)) (hi:P.info? e=some i) (hz:i.zero=some z)
  (hsize:i.size=size) (hby:i.bytes=bytes) (hzs:z.cells.size=size) (hsz:0<size)
  (v:Value) (n:Nat) (xs:List Value) (hown:w.ownsRow base e size v n xs)
  (ad:Addr) (m c:Nat) (news:List Value) (hl:news.length=m*size) (hnews:∀ j u,news[j]? = some u->w.cell? (ad.add j)=some u) (h1:∀ u∈news,u.oneCell'=true)
  (hm:0<m) (h63:n+m<=maxLen) (hbytes:(n+m)*bytes<=140737488355328) (hbase:base<=w.heap.size) (hcl:NoI w v) (hzu:∀ x∈z.cells,∀ y,x ≠ .int .i64 y) (hnu:∀ x∈news,∀ y,x ≠ .int .i64 y) :
  ∃ g cap w',(Builtin.append_ #[t,t] ty #[v,.slice (some ad) m c]).run P w = .ok (.slice (some ⟨g,0,none⟩) (n+m) cap) w' /\
   w'.ownsRow base e size (.slice (some ⟨g,0,none⟩) (n+m) cap) (n+m) (xs++news)/\w.grownBy w' v.ownBlock/\NoI w' (.slice (some ⟨g,0,none⟩) (n+m) cap)/\(v.ownBlock=some g\/g=w.heap.size):=by
 obtain ⟨g,cap,w',hr,h2,h3,h4⟩:=zZv (P:=P) w t ty base e i z size bytes ht hi hz hsize hby hzs hsz v n xs hown ad m c news hl hnews h1 hm h63 hbytes hbase hcl hzu hnu;obtain ⟨g2,cap2,w2,hr2, -, -,h5, -⟩:=run_append_lies (P:=P) w t ty base e i z size bytes ht hi hz hsize hby hzs hsz v n xs hown ad m c news hl hnews h1 hm h63 hbytes hbase _ rfl;refine ⟨g,cap,w',hr,h2,h3,h4,?_⟩;rw [hr] at hr2;injection hr2 with hv hw;injection hv with hv;injection hv with hv;injection hv with hv;rw [hv];exact h5
theorem xCl {ops:Array Oper} {o:Oper} {a:Act} {K:Act->World->Prop} {Q:Exit->Act->World->Prop} {E:Prop} (hgd:o.guard=none) (s x:Operand) (t:TypeId)
  (ho:o.op = .call { callee := .builtin .append,args:=#[s,x],argTypes:=#[t,t] })
  (base:Nat) (e:TypeId) (i:TypeInfo) (z:Value) (size bytes:Nat) (ht:P.underlying t=some (.slice e)) (hi:P.info? e=some i) (hz:i.zero=some z)
  (hsize:i.size=size) (hby:i.bytes=bytes) (hzs:z.cells.size=size) (hsz:0<size)
  (v:Value) (n:Nat) (xs:List Value) (hs:a.eval s=v) (hown:w.ownsRow base e size v n xs)
  (ad:Addr) (m c:Nat) (news:List Value) (hx:a.eval x = .slice (some ad) m c) (hl:news.length=m*size) (hnews:∀ j u,news[j]? = some u->w.cell? (ad.add j)=some u) (h1:∀ u∈news,u.oneCell'=true)
  (hm:0<m) (h63:n+m<=maxLen) (hbytes:(n+m)*bytes<=140737488355328) (hbase:base<=w.heap.size) (hcl:NoI w v) (hzu:∀ x∈z.cells,∀ y,x ≠ .int .i64 y) (hnu:∀ x∈news,∀ y,x ≠ .int .i64 y)
  (h:∀ g cap w',w'.ownsRow base e size (.slice (some ⟨g,0,none⟩) (n+m) cap) (n+m) (xs++news)->w.grownBy w' v.ownBlock->NoI w' (.slice (some ⟨g,0,none⟩) (n+m) cap)->(v.ownBlock=some g\/g=w.heap.size)->K (a.put o.dst (.slice (some ⟨g,0,none⟩) (n+m) cap)) w') :
  if Region.wanted o (yielded ops a.tmps)=true then Oper.wp P o a w K Q else E:=by
 have hw:Region.wanted o (yielded ops a.tmps)=true:=by simp [Region.wanted,hgd]
 rw [if_pos hw];obtain ⟨g,cap,w',hr,h2,h3,h4,h5⟩:=zZt (P:=P) w t o.type base e i z size bytes ht hi hz hsize hby hzs hsz v n xs hown ad m c news hl hnews h1 hm h63 hbytes hbase hcl hzu hnu;unfold Oper.wp execOp;simp only [ho,resolve,invoke,builtin,Sem.run_bind,Sem.run_pure,Result.andThen_ok,List.map_toArray,List.map_cons,List.map_nil,hs,hx,hr];exact h g cap w' h2 h3 h4 h5
end
def RwF.self (r:RwF):Value := .slice (some ⟨r.g,0,none⟩) r.us.length r.cp
structure TbX (B:Nat) (w:World) (V:Value) (rows:List RwF) (P:mRx):Prop where
 o:w.ownsRow B 115 1 V rows.length (rows.map RwF.self)
 r:∀ r∈rows,w.ownsRow B 73 4 r.self r.us.length (frc r.us)
 nd:(rows.map (·.g)).Nodup
 num:∀ i,(h:i<rows.length)->∀ k,(h2:k<rows[i].us.length)->zCl w rows[i].us[k].val (P i k)
 nor:∀ r∈rows,NoI w r.self
section
variable {B n:Nat} {w w6 w':World} {V:Value} {rows:List RwF} {P:mRx}
theorem xAs {r:RwF} (h:r.us.length=n):r.self=r.val n:=by unfold RwF.self RwF.val;rw [h]
theorem TbF.toX (h:TbF B w V rows n P) (hn:∀ r∈rows,NoI w (r.val n)):TbX B w V rows P:=by
 have e:∀ r∈rows,r.self=r.val n:=fun r hr=>xAs (h.l r hr)
 refine ⟨?_,fun r hr=>?_,h.nd,h.num,fun r hr=>by rw [e r hr];exact hn r hr⟩
 ·rw [List.map_congr_left e];exact h.o
 rw [e r hr,h.l r hr];exact h.r r hr
theorem TbX.toF (h:TbX B w V rows P) (hl:∀ r∈rows,r.us.length=n):TbF B w V rows n P:=by
 have e:∀ r∈rows,r.self=r.val n:=fun r hr=>xAs (hl r hr)
 refine ⟨?_,fun r hr=>?_,hl,h.nd,h.num⟩
 ·rw [<-List.map_congr_left e];exact h.o
 have:=h.r r hr;rw [e r hr,hl r hr] at this;exact this
theorem TbX.below (h:TbX B w V rows P) (hb:Below w.heap.size w w'):TbX B w' V rows P:=⟨zVn h.o hb,fun r hr=>zVn (h.r r hr) hb,h.nd,fun i hi k hk=>(h.num i hi k hk).below hb,fun r hr=>(h.nor r hr).below (fun k hk=>((h.r r hr).lt k hk).2) hb⟩
theorem TbX.grow {R c:Nat} (h:TbX B w (.slice (some ⟨R,0,none⟩) rows.length c) rows P) {i:Nat} (hi:i<rows.length) {r2:RwF} {u:FrV} {z:Rat} (hu2:r2.us=rows[i].us++[u]) (hu:zCl w u.val z) (hz:P i rows[i].us.length=z)
  (ho:w6.ownsRow B 73 4 r2.self r2.us.length (frc r2.us)) (hg:w.grownBy w6 rows[i].self.ownBlock) (hn:NoI w6 r2.self) (hgg:rows[i].g=r2.g\/r2.g=w.heap.size) :
  TbX B (w6.setCell ⟨R,i,none⟩ r2.self) (.slice (some ⟨R,0,none⟩) rows.length c) (rows.set i r2) P/\(∀ v y,zCl w v y->zCl (w6.setCell ⟨R,i,none⟩ r2.self) v y)/\Below B w (w6.setCell ⟨R,i,none⟩ r2.self):=by
 have hri:=h.r _ (List.getElem_mem hi);have hoo:w6.ownsRow B 115 1 (.slice (some ⟨R,0,none⟩) rows.length c) rows.length (rows.map RwF.self):=h.o.kept hg (zVs h.o hri dCx);have hs1:=(hoo.stored i r2.self).1;have hg1:=(hoo.stored i r2.self).2
 have hno:∀ x∈rows.map RwF.self,∀ z,x ≠ .int .i64 z:=fun x hx z e=>by
  obtain ⟨a,_,e2⟩:=List.mem_map.1 hx;rw [<-e2] at e
  cases e
 have hkeep:∀ v y,zCl w v y->zCl (w6.setCell ⟨R,i,none⟩ r2.self) v y:=fun v y hv=>(hv.clean (h.nor _ (List.getElem_mem hi)) hg).row hoo hno oMx _
 have hmap:(rows.map RwF.self).set i r2.self=(rows.set i r2).map RwF.self:=by rw [List.map_set]
 rw [hmap] at hs1
 have hne:∀ a,(ha:a<rows.length)->a≠i->rows[a].g≠rows[i].g:=fun a ha hai=>by
  have:=List.pairwise_iff_getElem.1 h.nd
  rcases Nat.lt_or_ge a i with h1|h1
  ·have:=this a i (by simpa using ha) (by simpa using hi) h1
   simpa using this
  have:=this i a (by simpa using hi) (by simpa using ha) oMx
  simpa using Ne.symm (by simpa using this)
 have hlt:∀ a,(ha:a<rows.length)->rows[a].g<w.heap.size:=fun a ha=>((h.r _ (List.getElem_mem ha)).lt _ rfl).2
 have hkr:∀ a,(ha:a<rows.length)->a≠i->(w6.setCell ⟨R,i,none⟩ r2.self).ownsRow B 73 4 rows[a].self rows[a].us.length (frc rows[a].us)/\NoI (w6.setCell ⟨R,i,none⟩ r2.self) rows[a].self:=fun a ha hai=>by
  have h1:=h.r _ (List.getElem_mem ha)
  have h2:rows[a].self.ownBlock=none\/rows[a].self.ownBlock≠rows[i].self.ownBlock := .inr (by
   intro e
   have:some rows[a].g=some rows[i].g:=e;injection this with this
   exact hne a ha hai this)
  have h3:=h1.kept hg h2;have h4:=(h.nor _ (List.getElem_mem ha)).kept hg (fun k hk=>(h1.lt k hk).2) h2;have h5:=zVs h3 hoo dCx;exact ⟨h3.kept hg1 h5,h4.kept hg1 (fun k hk=>(h3.lt k hk).2) h5⟩
 have ho5:=zVs ho hoo dCx;have hown2:=ho.kept hg1 ho5;have hnou2:=hn.kept hg1 (fun k hk=>(ho.lt k hk).2) ho5;have hR:=(h.o.lt R rfl).1;refine ⟨⟨by rw [List.length_set];exact hs1,fun r hr=>?_,?_,fun a ha k hk=>?_,fun r hr=>?_⟩,hkeep,?_⟩
 ·obtain ⟨a,ha,rfl⟩:=List.getElem_of_mem hr
  have ha':a<rows.length:=by simpa using ha
  by_cases e:a=i
  ·subst e;simp only [List.getElem_set_self];exact hown2
  rw [List.getElem_set_ne (Ne.symm e)];exact (hkr a ha' e).1
 ·rw [List.map_set];rw [List.nodup_iff_pairwise_ne,List.pairwise_iff_getElem]
  intro a b ha hb hab
  have ha':a<rows.length:=by simpa using ha
  have hb':b<rows.length:=by simpa using hb
  rw [List.getElem_set,List.getElem_set,List.getElem_map,List.getElem_map];have hd:=List.pairwise_iff_getElem.1 h.nd a b (by simpa using ha') (by simpa using hb') hab;rw [List.getElem_map,List.getElem_map] at hd
  split
  ·rename_i e1
   split
   ·omega
   rename_i e2
   subst e1
   rcases hgg with h1|h1
   ·intro e;exact hd (h1.trans e)
   have:=hlt b hb';omega
  rename_i e1
  split
  ·rename_i e2
   subst e2
   rcases hgg with h1|h1
   ·intro e;exact hd (e.trans h1.symm)
   have:=hlt a ha';omega
  exact hd
 ·have ha':a<rows.length:=by simpa using ha
  by_cases e:a=i
  ·subst e;simp only [List.getElem_set_self] at hk ⊢
   have hk2:k<(rows[a].us++[u]).length:=by rw [<-hu2];exact hk
   have e3:r2.us[k]=(rows[a].us++[u])[k]:=by simp only [hu2]
   rw [e3]
   by_cases e4:k<rows[a].us.length
   ·rw [List.getElem_append_left e4];exact hkeep _ _ (h.num a ha' k e4)
   have hk3:k<rows[a].us.length+1:=by simpa using hk2
   obtain rfl:k=rows[a].us.length:=by omega
   rw [List.getElem_append_right oMx];simp only [Nat.sub_self,List.getElem_singleton];rw [hz];exact hkeep _ _ hu
  simp only [List.getElem_set_ne (Ne.symm e)] at hk ⊢;exact hkeep _ _ (h.num a ha' k hk)
 ·obtain ⟨a,ha,rfl⟩:=List.getElem_of_mem hr
  have ha':a<rows.length:=by simpa using ha
  by_cases e:a=i
  ·subst e;simp only [List.getElem_set_self];exact hnou2
  rw [List.getElem_set_ne (Ne.symm e)];exact (hkr a ha' e).2
 exact ((Below.refl B w).grown hg (Nat.le_of_lt (Nat.lt_of_le_of_lt hR (h.o.lt R rfl).2)) (fun k hk=>(hri.lt k hk).1)).setCell (p:=⟨R,i,none⟩) hR _
end
theorem zDp (A:oAx) (ss:List ByteArray) (c:Nat) (w:World) (h:zGw w A ss) (hl:ss.length<=1000):Calls Tryz.prog 93 #[.slice A ss.length c] w (zFp w ss):=by
 obtain ⟨i0,hi,hz0,hz1,hz2⟩:=info_parts Tryz.infoRats;have HS:=oH h;clear h
 go_enter Tryz.func93,Tryz.ntmps93
 go_wp2_with fail
 go_loopw [3,8] (fun v iv wr=>∃ (rs:List zGk),iv = .int .i64 (rs.length:Int)/\rs.length<=ss.length/\rs.map (·.ss)=(ss.take rs.length).map (fun s=>[s])/\zDa w.heap.size wr v rs/\Below w.heap.size w wr) (fun _ iv _=>ss.length-(intOf iv).toNat)
 ·exact ⟨[],rfl,oLx,rfl,zDa.zero _ _,bRx⟩
 obtain ⟨rs,rfl,hrm,hmap,hown,hb⟩:=hrel;obtain ⟨AV,cV,rfl, -⟩:=zVk hown.o;have HMAP:=oH hmap;have HOWN:=oH hown;have HB:=oH hb;have hsz:=hb.size;clear hmap hown hb
 by_cases hlt:rs.length<ss.length
 ·obtain ⟨b,off,rfl,hbb,hc⟩:=HS.out (by intro e;subst e;simp at hlt);have hci:=(HB.cell (p:=⟨b,off+rs.length,none⟩) hbb).trans (hc rs.length hlt);have HTK:=oH (show ss.take (rs.length+1)=ss.take rs.length++[ss[rs.length]] from List.take_succ_eq_append_getElem hlt);generalize ss[rs.length]=s at *
  have hx1:(0:Int)<=(rs.length:Int):=by omega
  have hx2:(rs.length:Int)<(ss.length:Int):=by omega
  have hmx:rs.length<=1000:=by omega
  have hb1:Below wr.heap.size wr (wr.alloc (.cells #[.string s] 39)):=bA;have hk1:=Blk.new wr 39 [.string s];have HN1:=oH (show (wr.alloc (.cells #[.string s] 39)).ownsRow w.heap.size 39 1 (.slice (some ⟨wr.heap.size,0,none⟩) 1 1) 1 (sv [s]) from ⟨rfl,.inr ⟨wr.heap.size,1,#[.string s],rfl,hsz,hk1,lRx,dCx,rfl,rfl⟩⟩);have HMO:=oH (HOWN.below hb1);have HB1:=oH (HB.alloc hsz (.cells #[.string s] 39));clear hc hk1 hb1
  go_wp2_with (at_builtin;refine wpList_append_own _ rfl _ _ 27 rfl w.heap.size 29 i0 (.slice none 0 0) 1 24 Tryz.underlying27 hi hz0 hz1 hz2 rfl dCx _ _ _ rfl (HMO.o.alloc _) ⟨wr.heap.size+1,0,none⟩ 1 1 [.slice (some ⟨wr.heap.size,0,none⟩) 1 1] rfl rfl (World.news_of_block (cs:=#[.slice (some ⟨wr.heap.size,0,none⟩) 1 1]) (t:=29) (fr:=(0,0)) (Blk.new' sMx _ [.slice (some ⟨wr.heap.size,0,none⟩) 1 1])) xBn (by unfold maxLen;omega) oMx (by simp;omega) ?_)
  intro v' w3 hown3 hgrow3 _
  have hlt2:∀ k,(Value.slice AV rs.length cV).ownBlock=some k->w.heap.size<=k:=fun k hk=>(HMO.o.lt k hk).1
  have HB3:=oH (zIj HB1.out HB1.size hgrow3 hlt2);have HM3:=oH ((HMO.below (bA)).push (r:=⟨some ⟨wr.heap.size,0,none⟩,1,[s]⟩) (zVn HN1.out (bA)) hown3 hgrow3);clear hown3 hgrow3 hlt2;go_wp2_with fail;go_roundw
  ·exact ⟨rs++[⟨some ⟨wr.heap.size,0,none⟩,1,[s]⟩],by simp only [List.length_append,List.length_singleton];go_num,by simp;omega,by rw [List.length_append,List.length_singleton,HTK.out,List.map_append,List.map_append,HMAP.out];rfl,HM3.out,HB3.out⟩
  simp [intOf];omega
 have HLM:=oH (show rs.length=ss.length by omega);go_wp2_with fail;go_ret
 exact ⟨_,rs,rfl,by have:=HMAP.out;rw [HLM.out,List.take_length] at this;exact this,HOWN.out,HB.out⟩
def zIa (n:Nat) (M:mRx) (b:Nat->Rat):Nat->Nat->Rat:=fun i j=>if j<n then M i j else b i
theorem zIb {n:Nat} {M:mRx} {b:Nat->Rat} {i j:Nat} (h:j<n):zIa n M b i j=M i j:=if_pos h
theorem zIc {n:Nat} {M:mRx} {b:Nat->Rat} {i:Nat}:zIa n M b i n=b i:=if_neg (Nat.lt_irrefl n)
theorem zId {n:Nat} {M:mRx} {b:Nat->Rat}:∀ (c i j:Nat),c<=n->j<n->xAk (zIa n M b) c i j=xAk M c i j
 | 0,_,_,_,hj=>zIb hj
 | c+1,i,j,hc,hj=>by
  show xAk (zIa n M b) c i j-xAk (zIa n M b) c i c*xAk (zIa n M b) c c j/xAk (zIa n M b) c c c=_
  rw [zId c i j oMx hj,zId c i c oMx oMx,zId c c j oMx hj,zId c c c oMx oMx]
  rfl
theorem augQ_dD {n:Nat} {M:mRx} {b:Nat->Rat} {t:Nat} (h:t<n):dD (zIa n M b) t=dD M t:=zId t t t (Nat.le_of_lt h) h
theorem augQ_dig {n k:Nat} {M:mRx} {b:Nat->Rat} (hM:∀ i j,i<n->j<n->zAv k (M i j)) (hb:∀ i,i<n->zAv k (b i)):∀ i j,i<n->j<n+1->zAv k (zIa n M b i j):=fun i j hi _=>by
 by_cases h:j<n
 ·rw [zIb h];exact hM i j hi h
 unfold zIa;rw [if_neg h];exact hb i hi
theorem zJv {rs:List zGk} {ss:List ByteArray} {n:Nat} {b:Nat->Rat} (h:rs.map (·.ss)=ss.map (fun s=>[s])) (hv:zHn ss n b):zCy rs n 1 (fun i _=>b i):=by
 have hl:rs.length=ss.length:=by have:=congrArg List.length h;simpa using this
 have hi':∀ i,(hi:i<rs.length)->rs[i].ss=[ss[i]'oMx]:=fun i hi=>by
  have h1:(rs.map (·.ss))[i]? = (ss.map fun s=>[s])[i]? := by rw [h]
  rw [List.getElem?_map,List.getElem?_map,List.getElem?_eq_getElem hi,List.getElem?_eq_getElem oMx] at h1
  simpa using h1
 refine ⟨by rw [hl];exact hv.len,fun r hr=>?_,fun i k hi hk=>?_,fun i _ hi _=>hv.fit i hi⟩
 ·obtain ⟨i,hi,rfl⟩:=List.getElem_of_mem hr
  rw [hi' i hi];rfl
 have e:=hi' i hi
 have hk0:k=0:=by rw [e] at hk;simpa using hk
 subst hk0;simp only [e,List.getElem_cons_zero];exact hv.cel i oMx
section
variable {B n:Nat} {w w6 w':World} {rows:List RwF} {P:mRx}
theorem TbX.rowAt {R c L:Nat} (h:TbX B w (.slice (some ⟨R,0,none⟩) L c) rows P) (hL:rows.length=L) {i:Nat} (hi:i<rows.length):w.cell? ⟨R,i,none⟩=some rows[i].self:=by
 subst hL;rw [h.o.cellAt i oMx]
 simp [hi]
theorem TbX.rowMid {R c L:Nat} (h:TbX B w (.slice (some ⟨R,0,none⟩) L c) rows P) (hL:rows.length=L) {i:Nat} (hi:i<rows.length) (hg:w.grownBy w6 rows[i].self.ownBlock):w6.cell? ⟨R,i,none⟩=some rows[i].self/\w6.frozen? ⟨R,i,none⟩=false:=by
 have hoo:w6.ownsRow B 115 1 (.slice (some ⟨R,0,none⟩) L c) rows.length (rows.map RwF.self):=h.o.kept hg (zVs h.o (h.r _ (List.getElem_mem hi)) dCx);subst hL;exact ⟨by rw [hoo.cellAt i oMx];simp [hi],hoo.frozenAt i⟩
end
def zGb (w:World) (n:Nat) (y:Nat->Rat) (e:Ending) (w':World):Prop:=∃ A c,e = .returned (.tuple #[.slice A n c,.int .i64 0])/\zHk w' A n y/\Below w.heap.size w w'
theorem zEy (A Ab:oAx) (rs:List zGk) (ss:List ByteArray) (c cb n:Nat) (M:mRx) (bq y:Nat->Rat) (w:World) (h:zCz w A rs) (hmf:zCy rs n n M) (hs:zGw w Ab ss) (hv:zHn ss n bq) (hn1:1<=n) (hn:n<=4) (hd:∀ i k,i<n->k<n->zAv 2 (M i k)) (hdb:∀ i,i<n->zAv 2 (bq i)) (hp:∀ t,t<n->dD M t≠0) (hy:∀ i,i<n->xDg n (fun j=>M i j*y j)=bq i) (hfy:∀ i,i<n->zBt (y i)) :
  Calls Tryz.prog 28 #[.slice A n c,.slice Ab n cb] w (zGb w n y):=by
 obtain ⟨j0,hj,hy0,hy1,hy2⟩:=info_parts Tryz.infoRF;generalize hQ:zGb w n y=Q;replace hQ:=oH hQ;obtain ⟨l1,l2,l3⟩:=hmf.len1000 oMx oMx;have HSH:=zEx A rs c w h l1 l2 l3;rw [hmf.shape hn1 oMx oMx,hmf.len] at HSH;replace HSH:=oH HSH;have hnn2:n*n<=16:=Nat.mul_le_mul hn hn
 have HHV:=oH (fun W (hW:Below w.heap.size w W)=>zEn A rs c n n n 2 M W (h.below hW) hmf hn1 oMx hn1 oMx dCx hd (by
  have h1:2*(n*n)+1+2<=35:=by omega
  exact Nat.le_trans (Nat.mul_le_mul hn h1) dCx) hn1 oMx)
 have hsl:ss.length=n:=hv.len;have HCO:=oH (fun W (hW:Below w.heap.size w W)=>(show Calls Tryz.prog 93 #[.slice Ab n cb] W (zFp W ss) by rw [<-hsl];exact zDp Ab ss cb W (hs.below hW) oMx))
 have HH2:=oH (fun W A5 c5 rs5 (hm:zCz W A5 rs5) (h5:rs5.map (·.ss)=ss.map (fun s=>[s]))=>zEn A5 rs5 c5 n 1 n 2 (fun i _=>bq i) W hm (zJv h5 hv) hn1 oMx dCx dCx dCx (fun i _ hi _=>hdb i hi) (by
  have h1:2*(n*1)+1+2<=11:=by omega
  exact Nat.le_trans (Nat.mul_le_mul hn h1) dCx) hn1 oMx)
 have HRD3:=oH (fun W (hW:Below w.heap.size w W)=>zEu A rs c n n M W (h.below hW) hmf hn1 oMx hn1 oMx);have hda:=augQ_dig hd hdb;have HDA:=oH hda
 have hpa:∀ t,t<n->dD (zIa n M bq) t≠0:=fun t ht=>by rw [augQ_dD ht];exact hp t ht
 have HPA:=oH hpa;have HYE:=oH (fun i (hi:i<n)=>gj_x (M:=zIa n M bq) (y:=y) hpa (fun i hi=>by rw [zIc,<-hy i hi];exact xDi fun j hj=>by rw [zIb hj]) hi);have HIN:=oH (fun i k (hk:k<n)=>(show zIa n M bq i k=M i k from zIb hk));have HLA:=oH (fun i=>(show zIa n M bq i n=bq i from zIc));have HFV:=oH hv.fit;have HCE:=oH hv.cel;have HFY:=oH hfy;obtain ⟨bb,ob,rfl,hbb,hcb⟩:=hs (by intro e;rw [e] at hsl;simp at hsl;omega);have HCB:=oH hcb;clear h hmf l1 l2 l3 hd hdb hp hy hfy hda hpa hnn2 hs hv hcb;generalize zIa n M bq=X at *
 go_enter Tryz.func28,Tryz.ntmps28
 go_wp2_with fail;refine HSH.mono ?_;rintro e w1 ⟨rfl,hb1⟩;have HB1:=oH hb1;clear hb1;simp only
 have hnn:((n:Int) != (n:Int))=false:=by simp
 go_wp2_with fail
 go_loopw [37] (fun iv wr=>∃ i:Nat,iv = .int .i64 (i:Int)/\i<=n/\Below w.heap.size w wr) (fun iv _=>n-(intOf iv).toNat)
 ·exact ⟨0,rfl,oLx,HB1.out⟩
 clear HB1;obtain ⟨i,rfl,hin,hbr⟩:=hrel;obtain ⟨wi,rfl⟩:=nWx wr;have HBR:=oH hbr;clear hbr
 by_cases hlt:i<n
 ·have hi5:i<ss.length:=by omega
  have c0:=(HBR.cell (p:=⟨bb,ob+i,none⟩) hbb).trans (HCB.out i hi5);rw [HCE.out i hi5] at c0;have HVD:=oH (zEh (bq i) wi (HFV.out i hlt));generalize zYy (bq i)=sq at *
  have x1:(0:Int)<=(i:Int):=by omega
  have x2:(i:Int)<(n:Int):=by omega
  go_wp2_with fail;refine HVD.mono ?_;rintro e w2 ⟨rfl,hb⟩;have HB2:=bTx2 HBR hb;clear hb c0 HBR HVD;go_wp2_with fail;go_roundw
  ·exact ⟨i+1,by go_num,oMx,HB2.out⟩
  simp [intOf];omega
 go_wp2_with fail;refine (HHV.out wi HBR.out).mono ?_;rintro e w2 ⟨rfl,hb⟩;have HB2:=bTx2 HBR hb;clear hb HBR HHV HSH;go_wp2_with fail;refine (HCO.out w2 HB2.out).mono ?_;rintro e w3 ⟨v5,rs5,rfl,hrs5,hmo5,hb⟩;obtain ⟨A5,c5,rfl, -⟩:=zVk hmo5.o;have HB3:=bTx2 HB2 hb
 have hl5:rs5.length=n:=by have:=congrArg List.length hrs5;simp at this;omega
 have HH5:=oH (HH2.out w3 A5 c5 rs5 hmo5.read hrs5);rw [hl5];clear hb hmo5 hrs5 HCO HH2 hl5;go_wp2_with fail;refine HH5.mono ?_;rintro e w4 ⟨rfl,hb⟩;have HB4:=bTx2 HB3 hb;clear hb HH5;go_wp2_with fail;refine (HRD3.out w4 HB4.out).mono ?_;rintro e w5 ⟨R,cR,rows0,rfl,hrl,htab,hnor,hb⟩;have HB5:=bTx2 HB4 hb;have HL0:=oH htab.l;have HT5:=oH (((htab.congr fun i k _ hk=>HIN.out i k hk).mono HB4.size).toX hnor);have HRL:=oH hrl;clear hb hrl htab hnor HRD3 HB2 HB3 HB4;go_wp2_with fail
 go_loopw [58] (fun iv wr=>∃ (i:Nat) (rows:List RwF),iv = .int .i64 (i:Int)/\i<=n/\rows.length=n/\TbX w.heap.size wr (.slice (some ⟨R,0,none⟩) n cR) rows X/\(∀ j,(hj:j<rows.length)->rows[j].us.length=if j<i then n+1 else n)/\Below w.heap.size w wr) (fun iv _=>n-(intOf iv).toNat)
 ·exact ⟨0,rows0,rfl,oLx,HRL.out,HT5.out,fun j hj=>by rw [if_neg oMx];exact HL0.out _ (List.getElem_mem hj),HB5.out⟩
 clear HT5 HRL HL0 HB5;obtain ⟨i,rows,rfl,hin,hrl,htab,hul,hbk⟩:=hrel;obtain ⟨wk,rfl⟩:=nWx wr;have HRL:=oH hrl;have HT:=oH htab;have HLL:=oH hul;have HB:=oH hbk
 by_cases hlt2:i<n
 ·have hir:i<rows.length:=by omega
  have hi5:i<ss.length:=by omega
  have hc0:w.cell? ⟨bb,ob+i,none⟩=some (.string (zYy (bq i))):=by rw [HCB.out i hi5,HCE.out i hi5]
  have hRd:∀ W,Calls Tryz.prog 47 #[.string (zYy (bq i))] W _:=fun W=>zEc (bq i) W (HFV.out i hlt2)
  have HRD:=oH hRd;have hus:=hul i hir;rw [if_neg (Nat.lt_irrefl i)] at hus;obtain ⟨rr,hr⟩:=eXx (rows[i]);have HRE:=oH hr;rw [hr] at hus;obtain ⟨rg,rc,us⟩:=rr;replace hus:us.length=n:=hus;have HUL:=oH hus;have HSF:=oH (show RwF.self ⟨rg,rc,us⟩ = .slice (some ⟨rg,0,none⟩) n rc from xAs hus);have hp5:=htab.rowAt hrl hir;rw [HRE.out,HSF.out] at hp5
  have hGR:∀ (Wa w8:World),TbX w.heap.size Wa (.slice (some ⟨R,0,none⟩) n cR) rows X->∀ (g2 cap2:Nat) (u:FrV),zCl Wa u.val (bq i)->w8.ownsRow w.heap.size 73 4 (.slice (some ⟨g2,0,none⟩) (n+1) cap2) (n+1) (frc us++u.four)->Wa.grownBy w8 (Value.slice (some ⟨rg,0,none⟩) n rc).ownBlock->NoI w8 (.slice (some ⟨g2,0,none⟩) (n+1) cap2)->((Value.slice (some ⟨rg,0,none⟩) n rc).ownBlock=some g2\/g2=Wa.heap.size)->TbX w.heap.size (w8.setCell ⟨R,i,none⟩ (.slice (some ⟨g2,0,none⟩) (n+1) cap2)) (.slice (some ⟨R,0,none⟩) n cR) (rows.set i ⟨g2,cap2,us++[u]⟩) X/\Below w.heap.size Wa (w8.setCell ⟨R,i,none⟩ (.slice (some ⟨g2,0,none⟩) (n+1) cap2)):=by
   intro Wa w8 ht g2 cap2 u hu h1 h2 h3 h4
   have e1:RwF.self ⟨g2,cap2,us++[u]⟩ = .slice (some ⟨g2,0,none⟩) (n+1) cap2:=xAs (by simp only [List.length_append,List.length_singleton];omega)
   have ht':TbX w.heap.size Wa (.slice (some ⟨R,0,none⟩) rows.length cR) rows X:=by rw [HRL.out];exact ht
   have h9:=ht'.grow (w6:=w8) hir (r2:=⟨g2,cap2,us++[u]⟩) (u:=u) (z:=bq i) (by rw [HRE.out]) hu (by rw [HRE.out];show X i us.length=bq i;rw [HUL.out];exact HLA.out i) (by rw [e1,show (us++[u]).length=n+1 by simp only [List.length_append,List.length_singleton];omega,zOf];exact h1) (by rw [HRE.out,HSF.out];exact h2) (by rw [e1];exact h3) (by rw [HRE.out];exact h4.imp (fun h5=>by injection h5 with h6) id);rw [e1,HRL.out] at h9;exact ⟨h9.1,h9.2.2⟩
  have HGR:=oH hGR;obtain ⟨sq,hsq⟩:=eXx (zYy (bq i));rw [hsq] at hc0 HRD;have HC0:=oH hc0
  have hKB:∀ W',Below wk.heap.size wk W'->(W'.cell? ⟨R,i,none⟩=some (.slice (some ⟨rg,0,none⟩) n rc)/\W'.cell? ⟨bb,ob+i,none⟩=some (.string sq)):=fun W' hW=>⟨kP hW hp5,((hbk.trans (hW.mono hbk.size)).cell hbb).trans hc0⟩
  have HWz:=oH (show Below wk.heap.size wk wk.drew from bRx.drew);have KSz:=oH (hKB _ HWz.out);have KB:=oH hKB
  have k1:(0:Int)<=(i:Int):=by omega
  have k2:(i:Int)<(n:Int):=by omega
  clear htab hul hbk hr hus hp5 hGR hRd hKB hsq hc0 hi5 hrl;go_wp2_with fail;refine xHt (S:=(fun w'=>w'.cell? ⟨R,i,none⟩=some (.slice (some ⟨rg,0,none⟩) n rc)/\w'.cell? ⟨bb,ob+i,none⟩=some (.string sq))) 14 (by kernel_rfl) rfl (by kernel_rfl) (by kernel_rfl) rfl (by exact KSz.out) (fun hHeld=>?_);simp only [List.pop_toArray,List.dropLast_cons_cons,List.dropLast_singleton];refine tkH 0 ?_;refine tkH 1 ?_;refine tkH 2 ?_;refine tkH 3 ?_;refine tkH 4 ?_;refine tkH 5 ?_;refine tkH 6 ?_;refine tkH 7 ?_;refine tkH 8 ?_;refine tkH 9 ?_
  try simp only [Act.put,tkA,tkB,tkC]
  refine tkS 10 fun K hK=>?_
  go_simp
  (go_at_call 47;(with_reducible refine (HRD.out _).mono ?_);rintro e wa ⟨va,rfl,hv,hb⟩;have hw:Below wk.heap.size wk wa:=HWz.out.trans (hb.mono HWz.out.size);have HTA:=oH (HT.out.below hw);have HVA:=oH hv;have HBA:=bTx2 HB hw;have KSa:=oH (KB.out wa hw);obtain ⟨xa,xb',Xa,Xb,la,ca,lb,cb,rfl⟩:=hv.slice;have hbl:Below wa.heap.size wa (wa.alloc (.cells #[.bool xa,.slice Xa la ca,.bool xb',.slice Xb lb cb] 73)):=bA;have HTB:=oH (HTA.out.below hbl);have HVB:=oH (HVA.out.below hbl);have HBB:=bTx2 HBA hbl;have KSb:=oH (KB.out _ (hw.trans (hbl.mono hw.size)));have HOA:=oH (show (wa.alloc (.cells #[.bool xa,.slice Xa la ca,.bool xb',.slice Xb lb cb] 73)).ownsRow w.heap.size 73 4 (.slice (some ⟨rg,0,none⟩) n rc) n (frc us) from by have h9:=HTB.out.r _ (List.getElem_mem hir);rw [HRE.out,HSF.out,HUL.out] at h9;exact h9);have HNA:=oH (show NoI (wa.alloc (.cells #[.bool xa,.slice Xa la ca,.bool xb',.slice Xb lb cb] 73)) (.slice (some ⟨rg,0,none⟩) n rc) from by have h9:=HTB.out.nor _ (List.getElem_mem hir);rw [HRE.out,HSF.out] at h9;exact h9);have hsB:=HBB.out.size;clear hb hw hv hbl)
  go_wp2_with fail;refine hK.out _ _ ?_ (fun hHeld=>?_)
  ·first|exact KSz.out|exact KSa.out|exact KSb.out|exact ⟨u6,u1⟩
  clear hK K
  try simp only [Act.put,tkA,tkB,tkC]
  refine tkS 11 fun K hK=>?_
  go_simp
  refine hK.out _ _ ?_ (fun hHeld=>?_)
  ·first|exact KSz.out|exact KSa.out|exact KSb.out|exact ⟨u6,u1⟩
  clear hK K
  try simp only [Act.put,tkA,tkB,tkC]
  refine tkS 12 fun K hK=>?_
  (refine xCl _ (by rfl) _ _ _ (by rfl) w.heap.size 73 j0 _ 4 64 Tryz.underlying115 hj hy0 hy1 hy2 rfl dCx (.slice (some ⟨rg,0,none⟩) n rc) n (frc us) (by go_simp) HOA.out ⟨wa.heap.size,0,none⟩ 1 1 (FrV.four ⟨xa,Xa,la,ca,xb',Xb,lb,cb⟩) (by go_simp) rfl (World.news_of_block (cs:=#[.bool xa,.slice Xa la ca,.bool xb',.slice Xb lb cb]) (t:=73) (fr:=(0,0)) (heap_alloc_new wa _)) zNy oMx (by unfold maxLen;omega) oMx hsB HNA.out zOg zNx ?_;intro g2 cap2 w8 hown8 hgrow8 hno8 hgg8;have hgr:(wa.alloc (.cells #[.bool xa,.slice Xa la ca,.bool xb',.slice Xb lb cb] 73)).grownBy w8 rows[i].self.ownBlock:=(by rw [HRE.out,HSF.out];exact hgrow8);have hrm:=HTB.rowMid HRL.out hir hgr;rw [HRE.out,HSF.out] at hrm;have u6:=hrm.1;have u7:=hrm.2;have HB8:=oH (HBB.grown hgrow8 hsB (fun k hk=>(HOA.lt k hk).1));have u1:=(HB8.cell hbb).trans HC0.out;have HG:=oH (HGR.out (wa.alloc (.cells #[.bool xa,.slice Xa la ca,.bool xb',.slice Xb lb cb] 73)) w8 HTB.out g2 cap2 ⟨xa,Xa,la,ca,xb',Xb,lb,cb⟩ HVB.out hown8 hgrow8 hno8 hgg8);clear hown8 hgrow8 hno8 hgg8 hrm hgr)
  refine hK.out _ _ ?_ (fun hHeld=>?_)
  ·first|exact KSz.out|exact KSa.out|exact KSb.out|exact ⟨u6,u1⟩
  clear hK K
  try simp only [Act.put,tkA,tkB,tkC]
  refine tkH 13 ?_
  try simp only [Act.put,tkA,tkB,tkC]
  refine wpAnyH_done (by kernel_rfl) ?_ _;simp only [xEe,List.getElem_toArray,List.getElem_cons_succ,List.getElem_cons_zero];go_wp2_with fail;go_roundw
  ·exact ⟨i+1,_,by go_num,oMx,by rw [List.length_set];exact HRL.out,HG.1,fun j hj=>by
   have hj':j<rows.length:=by simpa using hj
   by_cases e:j=i
   ·subst e;simp only [List.getElem_set_self];rw [if_pos oMx];simp only [List.length_append,List.length_singleton,HUL.out]
   simp only [List.getElem_set_ne (Ne.symm e)];rw [HLL.out j hj']
   by_cases e2:j<i
   ·rw [if_pos e2,if_pos oMx]
   rw [if_neg e2,if_neg oMx],HBB.trans HG.2⟩
  simp [intOf];omega
 obtain rfl:i=n:=by omega
 have HT6:=oH (htab.toF (n:=i+1) fun r hr=>by
  obtain ⟨j,hj,rfl⟩:=List.getElem_of_mem hr
  rw [hul j hj,if_pos oMx])
 clear htab hul hbk HT HLL;go_wp2_with fail;refine (zDr w.heap.size R cR i (i+1) rows X wk HT6.out hrl hn1 hn oMx oMx HDA.out HPA.out).mono ?_;rintro e w7 ⟨A7,c7,v7,rows7,rfl,hv7,hrl7,htab7,hb⟩;obtain ⟨na,nb,A1,A2,l1,c1,l2,c2,rfl⟩:=hv7.slice;have hsw:w.heap.size<=wk.heap.size:=HB.size;have hbl:Below w7.heap.size w7 (w7.alloc (.cells #[.bool na,.slice A1 l1 c1,.bool nb,.slice A2 l2 c2] 73)):=bA;have HB7:=oH (HB.trans (hb.trans (hbl.mono (Nat.le_trans hsw hb.size))));have HT7:=oH (htab7.below hbl);have HRL7:=oH hrl7;clear hb hv7 hrl7 htab7 hbl HT6 HB HRL hrl hsw HDA HPA HIN HLA;go_upto_region 21 with (fail);generalize w7.alloc (.cells #[.bool na,.slice A1 l1 c1,.bool nb,.slice A2 l2 c2] 73)=W at *
 have hii:(i:Int)<(i:Int)+1:=by omega
 go_wp2_with fail
 go_loopw [15,88] (fun v kv wr=>∃ us:List FrV,kv = .int .i64 (us.length:Int)/\us.length<=i/\(∀ k,(hk:k<us.length)->zCl wr us[k].val (y k))/\wr.ownsRow W.heap.size 73 4 v us.length (frc us)/\NoI wr v/\Below W.heap.size W wr) (fun _ kv _=>i-(intOf kv).toNat)
 ·exact ⟨[],rfl,oLx,fun k hk=>(by simp at hk),World.ownsRow_nil _ _ _ _,NoI.nil _ _ _,bRx⟩
 obtain ⟨us,rfl,hui,hus,hown,hno,hbq⟩:=hrel;obtain ⟨wq,rfl⟩:=nWx wr;obtain ⟨AV,cV,rfl, -⟩:=zVk hown;have HUS:=oH hus;have HO:=oH hown;have HNO:=oH hno;have HBQ:=oH hbq;have hszq:=hbq.size;clear hus hown hno hbq
 by_cases hlt3:us.length<i
 ·have ht:=HT7.below HBQ.out
  have hir:us.length<rows7.length:=by rw [HRL7.out];exact hlt3
  have k0:=TbF.cell (show TbF _ _ (.slice (some ⟨R,0,none⟩) rows7.length cR) rows7 (i+1) _ by rw [HRL7.out];exact ht) hir;obtain ⟨u,y0,y1,y2,y3,hu⟩:=ht.num_at hir (show i<i+1 by omega);rw [HYE.out us.length hlt3] at hu;obtain ⟨na,A1,l1,c1,nb,A2,l2,c2⟩:=u;generalize rows7[us.length].g=rg at *;generalize rows7[us.length].cp=rc at *;have HU:=oH hu
  have x1:(0:Int)<=(us.length:Int):=by omega
  have x2:(us.length:Int)<(i:Int):=by omega
  have x3:(0:Int)<=(i:Int):=by omega
  have x4:(i:Int)<((i+1:Nat):Int):=by omega
  clear ht hu
  go_wp2_with (at_builtin;refine xHm _ rfl _ _ 115 rfl W.heap.size 73 j0 _ 4 64 Tryz.underlying115 hj hy0 hy1 hy2 rfl dCx _ _ _ rfl (HO.alloc _) ⟨wq.heap.size,0,none⟩ 1 1 (FrV.four ⟨na,A1,l1,c1,nb,A2,l2,c2⟩) rfl rfl (World.news_of_block (cs:=#[.bool na,.slice A1 l1 c1,.bool nb,.slice A2 l2 c2]) (t:=73) (fr:=(0,0)) (heap_alloc_new wq _)) zNy oMx (by unfold maxLen;omega) oMx (by simp;omega) (HNO.below (fun k hk=>(HO.lt k hk).2) (bA)) zOg zNx ?_)
  intro g3 cap3 w9 hown9 hgrow9 hcl9
  have HO9:=oH hown9;have HC9:=oH hcl9;have HB9:=oH ((HBQ.alloc hszq _).grown hgrow9 (by simp;omega) (fun g hg=>(HO.lt g hg).1));have HNX:=oH (HNO.below (fun k hk=>(HO.lt k hk).2) (bRx.alloc lRx (.cells #[.bool na,.slice A1 l1 c1,.bool nb,.slice A2 l2 c2] 73)))
  have HU9:=oH (fun k (hk:k<(us++[(⟨na,A1,l1,c1,nb,A2,l2,c2⟩:FrV)]).length)=>(show zCl w9 (us++[(⟨na,A1,l1,c1,nb,A2,l2,c2⟩:FrV)])[k].val (y k) by
   by_cases e:k<us.length
   ·simp only [List.getElem_append_left e];exact ((HUS.out k e).below (bA)).clean HNX.out hgrow9
   simp only [List.length_append,List.length_singleton] at hk
   obtain rfl:k=us.length:=by omega
   simp only [List.getElem_append_right lRx,Nat.sub_self,List.getElem_singleton]
   exact (HU.below (bA)).clean HNX.out hgrow9))
  clear hown9 hgrow9 hcl9 HNX k0 y0 y1 y2 y3;go_wp2_with fail;go_roundw
  ·exact ⟨us++[⟨na,A1,l1,c1,nb,A2,l2,c2⟩],by simp only [List.length_append,List.length_singleton];go_num,by simp;omega,HU9.out,by rw [zOf,List.length_append];exact HO9.out,HC9.out,HB9.out⟩
  simp [intOf];omega
 have hul:us.length=i:=by omega
 have hown:=HO.out;rw [hul] at hown;rw [hul];obtain ⟨g9,rfl⟩:=zVj hown oMx
 have HLN:=oH (zEo g9 i cV y wq (hown.lt g9 rfl).2 oMx (fun k hk=>by
  have hk5:k<us.length:=by omega
  obtain ⟨e1,e2,e3,e4⟩:=zOd (us:=us) (i:=k) hk5
  exact ⟨us[k],(hown.cellAt (k*4) oMx).trans e1,(hown.cellAt (k*4+1) oMx).trans e2,(hown.cellAt (k*4+2) oMx).trans e3,(hown.cellAt (k*4+3) oMx).trans e4,HUS.out k hk5⟩) HFY.out)
 have HB9:=bTx2 HB7 HBQ;clear hown HO HNO HUS HBQ;go_wp2_with fail;refine HLN.mono ?_;rintro e w9 ⟨A9,c9,ts,rfl,htl,hts,how,hb⟩
 have HR:=oH (show zGb w i y (.returned (.tuple #[.slice A9 i c9,.int .i64 0])) w9 from ⟨A9,c9,rfl,⟨ts,(by
  rw [<-htl] at how;obtain ⟨A',c',e9, -,h9, -⟩:=zVy how;injection e9 with e9;rw [e9]
  exact h9),⟨htl,hts,HFY.out⟩⟩,HB9.trans (hb.mono HB9.size)⟩)
 clear htl hts how hb;go_wp2_with fail;rw [<-hQ.out];exact HR.out
end Go.Proofs.YtfjjcoggoomlbaaGreatDoor
