import Derived.Test.YtbjaplppalcmgaaGreatDoorZNP
set_option maxHeartbeats 16000000
set_option maxRecDepth 100000
set_option linter.unusedVariables false
set_option linter.unusedSimpArgs false
set_option linter.unusedSectionVars false
namespace Go.Proofs.YtbjaplppalcmgaaGreatDoor
open Go.RowKit
section
variable {P:Program} (w:World)
theorem zYe (t ty:TypeId) (base:Nat) (e:TypeId) (i:TypeInfo) (z:Value) (size bytes:Nat) (ht:P.underlying t=some (.slice e)) (hi:P.info? e=some i) (hz:i.zero=some z)
  (hsize:i.size=size) (hby:i.bytes=bytes) (hzs:z.cells.size=size) (hsz:0<size)
  (v:Value) (n:Nat) (xs:List Value) (hown:w.ownsRow base e size v n xs)
  (ad:Addr) (m c:Nat) (news:List Value) (hl:news.length=m*size) (hnews:∀ j u,news[j]? = some u->w.cell? (ad.add j)=some u) (h1:∀ u∈news,u.oneCell'=true)
  (hm:0<m) (h63:n+m<=maxLen) (hbytes:(n+m)*bytes<=140737488355328) (hbase:base<=w.heap.size) (hcl:NoI w v) (hzu:∀ x∈z.cells,∀ y,x ≠ .int .i64 y) (hnu:∀ x∈news,∀ y,x ≠ .int .i64 y) :
  ∃ g cap w',(Builtin.append_ #[t,t] ty #[v,.slice (some ad) m c]).run P w = .ok (.slice (some ⟨g,0,none⟩) (n+m) cap) w' /\
   w'.ownsRow base e size (.slice (some ⟨g,0,none⟩) (n+m) cap) (n+m) (xs++news)/\w.grownBy w' v.ownBlock/\NoI w' (.slice (some ⟨g,0,none⟩) (n+m) cap)/\(v.ownBlock=some g\/g=w.heap.size):=by
 obtain ⟨g,cap,w',hr,h2,h3,h4⟩:=zYg (P:=P) w t ty base e i z size bytes ht hi hz hsize hby hzs hsz v n xs hown ad m c news hl hnews h1 hm h63 hbytes hbase hcl hzu hnu;obtain ⟨g2,cap2,w2,hr2, -, -,h5, -⟩:=run_append_lies (P:=P) w t ty base e i z size bytes ht hi hz hsize hby hzs hsz v n xs hown ad m c news hl hnews h1 hm h63 hbytes hbase _ rfl;refine ⟨g,cap,w',hr,h2,h3,h4,?_⟩;rw [hr] at hr2;injection hr2 with hv hw;injection hv with hv;injection hv with hv;injection hv with hv;rw [hv];exact h5
theorem xAx {ops:Array Oper} {o:Oper} {a:Act} {K:Act->World->Prop} {Q:Exit->Act->World->Prop} {E:Prop} (hgd:o.guard=none) (s x:Operand) (t:TypeId)
  (ho:o.op = .call { callee := .builtin .append,args:=#[s,x],argTypes:=#[t,t] })
  (base:Nat) (e:TypeId) (i:TypeInfo) (z:Value) (size bytes:Nat) (ht:P.underlying t=some (.slice e)) (hi:P.info? e=some i) (hz:i.zero=some z)
  (hsize:i.size=size) (hby:i.bytes=bytes) (hzs:z.cells.size=size) (hsz:0<size)
  (v:Value) (n:Nat) (xs:List Value) (hs:a.eval s=v) (hown:w.ownsRow base e size v n xs)
  (ad:Addr) (m c:Nat) (news:List Value) (hx:a.eval x = .slice (some ad) m c) (hl:news.length=m*size) (hnews:∀ j u,news[j]? = some u->w.cell? (ad.add j)=some u) (h1:∀ u∈news,u.oneCell'=true)
  (hm:0<m) (h63:n+m<=maxLen) (hbytes:(n+m)*bytes<=140737488355328) (hbase:base<=w.heap.size) (hcl:NoI w v) (hzu:∀ x∈z.cells,∀ y,x ≠ .int .i64 y) (hnu:∀ x∈news,∀ y,x ≠ .int .i64 y)
  (h:∀ g cap w',w'.ownsRow base e size (.slice (some ⟨g,0,none⟩) (n+m) cap) (n+m) (xs++news)->w.grownBy w' v.ownBlock->NoI w' (.slice (some ⟨g,0,none⟩) (n+m) cap)->(v.ownBlock=some g\/g=w.heap.size)->K (a.put o.dst (.slice (some ⟨g,0,none⟩) (n+m) cap)) w') :
  if Region.wanted o (yielded ops a.tmps)=true then Oper.wp P o a w K Q else E:=by
 have hw:Region.wanted o (yielded ops a.tmps)=true:=by simp [Region.wanted,hgd]
 rw [if_pos hw];obtain ⟨g,cap,w',hr,h2,h3,h4,h5⟩:=zYe (P:=P) w t o.type base e i z size bytes ht hi hz hsize hby hzs hsz v n xs hown ad m c news hl hnews h1 hm h63 hbytes hbase hcl hzu hnu;unfold Oper.wp execOp;simp only [ho,resolve,invoke,builtin,Sem.run_bind,Sem.run_pure,Result.andThen_ok,List.map_toArray,List.map_cons,List.map_nil,hs,hx,hr];exact h g cap w' h2 h3 h4 h5
end
def RwF.self (r:RwF):Value := .slice (some ⟨r.g,0,none⟩) r.us.length r.cp
structure TbX (B:Nat) (w:World) (V:Value) (rows:List RwF) (P:mRx):Prop where
 o:w.ownsRow B 83 1 V rows.length (rows.map RwF.self)
 r:∀ r∈rows,w.ownsRow B 87 4 r.self r.us.length (frc r.us)
 nd:(rows.map (·.g)).Nodup
 num:∀ i,(h:i<rows.length)->∀ k,(h2:k<rows[i].us.length)->zBt w rows[i].us[k].val (P i k)
 nor:∀ r∈rows,NoI w r.self
section
variable {B n:Nat} {w w6 w':World} {V:Value} {rows:List RwF} {P:mRx}
theorem zYx {r:RwF} (h:r.us.length=n):r.self=r.val n:=by unfold RwF.self RwF.val;rw [h]
theorem TbF.toX (h:TbF B w V rows n P) (hn:∀ r∈rows,NoI w (r.val n)):TbX B w V rows P:=by
 have e:∀ r∈rows,r.self=r.val n:=fun r hr=>zYx (h.l r hr)
 refine ⟨?_,fun r hr=>?_,h.nd,h.num,fun r hr=>by rw [e r hr];exact hn r hr⟩
 ·rw [List.map_congr_left e];exact h.o
 rw [e r hr,h.l r hr];exact h.r r hr
theorem TbX.toF (h:TbX B w V rows P) (hl:∀ r∈rows,r.us.length=n):TbF B w V rows n P:=by
 have e:∀ r∈rows,r.self=r.val n:=fun r hr=>zYx (hl r hr)
 refine ⟨?_,fun r hr=>?_,hl,h.nd,h.num⟩
 ·rw [<-List.map_congr_left e];exact h.o
 have:=h.r r hr;rw [e r hr,hl r hr] at this;exact this
theorem TbX.below (h:TbX B w V rows P) (hb:Below w.heap.size w w'):TbX B w' V rows P:=⟨zUm h.o hb,fun r hr=>zUm (h.r r hr) hb,h.nd,fun i hi k hk=>(h.num i hi k hk).below hb,fun r hr=>(h.nor r hr).below (fun k hk=>((h.r r hr).lt k hk).2) hb⟩
theorem TbX.grow {R c:Nat} (h:TbX B w (.slice (some ⟨R,0,none⟩) rows.length c) rows P) {i:Nat} (hi:i<rows.length) {r2:RwF} {u:FrV} {z:Rat} (hu2:r2.us=rows[i].us++[u]) (hu:zBt w u.val z) (hz:P i rows[i].us.length=z)
  (ho:w6.ownsRow B 87 4 r2.self r2.us.length (frc r2.us)) (hg:w.grownBy w6 rows[i].self.ownBlock) (hn:NoI w6 r2.self) (hgg:rows[i].g=r2.g\/r2.g=w.heap.size) :
  TbX B (w6.setCell ⟨R,i,none⟩ r2.self) (.slice (some ⟨R,0,none⟩) rows.length c) (rows.set i r2) P/\(∀ v y,zBt w v y->zBt (w6.setCell ⟨R,i,none⟩ r2.self) v y)/\Below B w (w6.setCell ⟨R,i,none⟩ r2.self):=by
 have hri:=h.r _ (List.getElem_mem hi);have hoo:w6.ownsRow B 83 1 (.slice (some ⟨R,0,none⟩) rows.length c) rows.length (rows.map RwF.self):=h.o.kept hg (zUr h.o hri dCx);have hs1:=(hoo.stored i r2.self).1;have hg1:=(hoo.stored i r2.self).2
 have hno:∀ x∈rows.map RwF.self,∀ z,x ≠ .int .i64 z:=fun x hx z e=>by
  obtain ⟨a,_,e2⟩:=List.mem_map.1 hx;rw [<-e2] at e
  cases e
 have hkeep:∀ v y,zBt w v y->zBt (w6.setCell ⟨R,i,none⟩ r2.self) v y:=fun v y hv=>(hv.clean (h.nor _ (List.getElem_mem hi)) hg).row hoo hno oMx _
 have hmap:(rows.map RwF.self).set i r2.self=(rows.set i r2).map RwF.self:=by rw [List.map_set]
 rw [hmap] at hs1
 have hne:∀ a,(ha:a<rows.length)->a≠i->rows[a].g≠rows[i].g:=fun a ha hai=>by
  have:=List.pairwise_iff_getElem.1 h.nd
  rcases Nat.lt_or_ge a i with h1|h1
  ·have:=this a i (by simpa using ha) (by simpa using hi) h1
   simpa using this
  have:=this i a (by simpa using hi) (by simpa using ha) oMx
  simpa using Ne.symm (by simpa using this)
 have hlt:∀ a,(ha:a<rows.length)->rows[a].g<w.heap.size:=fun a ha=>((h.r _ (List.getElem_mem ha)).lt _ rfl).2
 have hkr:∀ a,(ha:a<rows.length)->a≠i->(w6.setCell ⟨R,i,none⟩ r2.self).ownsRow B 87 4 rows[a].self rows[a].us.length (frc rows[a].us)/\NoI (w6.setCell ⟨R,i,none⟩ r2.self) rows[a].self:=fun a ha hai=>by
  have h1:=h.r _ (List.getElem_mem ha)
  have h2:rows[a].self.ownBlock=none\/rows[a].self.ownBlock≠rows[i].self.ownBlock := .inr (by
   intro e
   have:some rows[a].g=some rows[i].g:=e;injection this with this
   exact hne a ha hai this)
  have h3:=h1.kept hg h2;have h4:=(h.nor _ (List.getElem_mem ha)).kept hg (fun k hk=>(h1.lt k hk).2) h2;have h5:=zUr h3 hoo dCx;exact ⟨h3.kept hg1 h5,h4.kept hg1 (fun k hk=>(h3.lt k hk).2) h5⟩
 have ho5:=zUr ho hoo dCx;have hown2:=ho.kept hg1 ho5;have hnou2:=hn.kept hg1 (fun k hk=>(ho.lt k hk).2) ho5;have hR:=(h.o.lt R rfl).1;refine ⟨⟨by rw [List.length_set];exact hs1,fun r hr=>?_,?_,fun a ha k hk=>?_,fun r hr=>?_⟩,hkeep,?_⟩
 ·obtain ⟨a,ha,rfl⟩:=List.getElem_of_mem hr
  have ha':a<rows.length:=by simpa using ha
  by_cases e:a=i
  ·subst e;simp only [List.getElem_set_self];exact hown2
  rw [List.getElem_set_ne (Ne.symm e)];exact (hkr a ha' e).1
 ·rw [List.map_set];rw [List.nodup_iff_pairwise_ne,List.pairwise_iff_getElem]
  intro a b ha hb hab
  have ha':a<rows.length:=by simpa using ha
  have hb':b<rows.length:=by simpa using hb
  rw [List.getElem_set,List.getElem_set,List.getElem_map,List.getElem_map];have hd:=List.pairwise_iff_getElem.1 h.nd a b (by simpa using ha') (by simpa using hb') hab;rw [List.getElem_map,List.getElem_map] at hd
  split
  ·rename_i e1
   split
   ·omega
   rename_i e2
   subst e1
   rcases hgg with h1|h1
   ·intro e;exact hd (h1.trans e)
   have:=hlt b hb';omega
  rename_i e1
  split
  ·rename_i e2
   subst e2
   rcases hgg with h1|h1
   ·intro e;exact hd (e.trans h1.symm)
   have:=hlt a ha';omega
  exact hd
 ·have ha':a<rows.length:=by simpa using ha
  by_cases e:a=i
  ·subst e;simp only [List.getElem_set_self] at hk ⊢
   have hk2:k<(rows[a].us++[u]).length:=by rw [<-hu2];exact hk
   have e3:r2.us[k]=(rows[a].us++[u])[k]:=by simp only [hu2]
   rw [e3]
   by_cases e4:k<rows[a].us.length
   ·rw [List.getElem_append_left e4];exact hkeep _ _ (h.num a ha' k e4)
   have hk3:k<rows[a].us.length+1:=by simpa using hk2
   obtain rfl:k=rows[a].us.length:=by omega
   rw [List.getElem_append_right oMx];simp only [Nat.sub_self,List.getElem_singleton];rw [hz];exact hkeep _ _ hu
  simp only [List.getElem_set_ne (Ne.symm e)] at hk ⊢;exact hkeep _ _ (h.num a ha' k hk)
 ·obtain ⟨a,ha,rfl⟩:=List.getElem_of_mem hr
  have ha':a<rows.length:=by simpa using ha
  by_cases e:a=i
  ·subst e;simp only [List.getElem_set_self];exact hnou2
  rw [List.getElem_set_ne (Ne.symm e)];exact (hkr a ha' e).2
 exact ((Below.refl B w).grown hg (Nat.le_of_lt (Nat.lt_of_le_of_lt hR (h.o.lt R rfl).2)) (fun k hk=>(hri.lt k hk).1)).setCell (p:=⟨R,i,none⟩) hR _
end
theorem zDh (A:oAx) (ss:List ByteArray) (c:Nat) (w:World) (h:zGx w A ss) (hl:ss.length<=1000):Calls Tryz.prog 42 #[.slice A ss.length c] w (zFn w ss):=by
 obtain ⟨i0,hi,hz0,hz1,hz2⟩:=info_parts Tryz.infoRats;have HS:=oH h;clear h
 go_enter Tryz.func42,Tryz.ntmps42
 go_wp2_with fail
 go_loopw [3,8] (fun v iv wr=>∃ (rs:List zGh),iv = .int .i64 (rs.length:Int)/\rs.length<=ss.length/\rs.map (·.ss)=(ss.take rs.length).map (fun s=>[s])/\zCk w.heap.size wr v rs/\Below w.heap.size w wr) (fun _ iv _=>ss.length-(intOf iv).toNat)
 ·exact ⟨[],rfl,oLx,rfl,zCk.zero _ _,bRx⟩
 obtain ⟨rs,rfl,hrm,hmap,hown,hb⟩:=hrel;obtain ⟨AV,cV,rfl, -⟩:=zUj hown.o;have HMAP:=oH hmap;have HOWN:=oH hown;have HB:=oH hb;have hsz:=hb.size;clear hmap hown hb
 by_cases hlt:rs.length<ss.length
 ·obtain ⟨b,off,rfl,hbb,hc⟩:=HS.out (by intro e;subst e;simp at hlt);have hci:=(HB.cell (p:=⟨b,off+rs.length,none⟩) hbb).trans (hc rs.length hlt);have HTK:=oH (show ss.take (rs.length+1)=ss.take rs.length++[ss[rs.length]] from List.take_succ_eq_append_getElem hlt);generalize ss[rs.length]=s at *
  have hx1:(0:Int)<=(rs.length:Int):=by omega
  have hx2:(rs.length:Int)<(ss.length:Int):=by omega
  have hmx:rs.length<=1000:=by omega
  have hb1:Below wr.heap.size wr (wr.alloc (.cells #[.string s] 43)):=bA;have hk1:=Blk.new wr 43 [.string s];have HN1:=oH (show (wr.alloc (.cells #[.string s] 43)).ownsRow w.heap.size 43 1 (.slice (some ⟨wr.heap.size,0,none⟩) 1 1) 1 (sv [s]) from ⟨rfl,.inr ⟨wr.heap.size,1,#[.string s],rfl,hsz,hk1,lRx,dCx,rfl,rfl⟩⟩);have HMO:=oH (HOWN.below hb1);have HB1:=oH (HB.alloc hsz (.cells #[.string s] 43));clear hc hk1 hb1
  go_wp2_with (at_builtin;refine wpList_append_own _ rfl _ _ 24 rfl w.heap.size 25 i0 (.slice none 0 0) 1 24 Tryz.underlying24 hi hz0 hz1 hz2 rfl dCx _ _ _ rfl (HMO.o.alloc _) ⟨wr.heap.size+1,0,none⟩ 1 1 [.slice (some ⟨wr.heap.size,0,none⟩) 1 1] rfl rfl (World.news_of_block (cs:=#[.slice (some ⟨wr.heap.size,0,none⟩) 1 1]) (t:=25) (fr:=(0,0)) (Blk.new' sMx _ [.slice (some ⟨wr.heap.size,0,none⟩) 1 1])) zZu (by unfold maxLen;omega) oMx (by simp;omega) ?_)
  intro v' w3 hown3 hgrow3 _
  have hlt2:∀ k,(Value.slice AV rs.length cV).ownBlock=some k->w.heap.size<=k:=fun k hk=>(HMO.o.lt k hk).1
  have HB3:=oH (zIl HB1.out HB1.size hgrow3 hlt2);have HM3:=oH ((HMO.below (bA)).push (r:=⟨some ⟨wr.heap.size,0,none⟩,1,[s]⟩) (zUm HN1.out (bA)) hown3 hgrow3);clear hown3 hgrow3 hlt2;go_wp2_with fail;go_roundw
  ·exact ⟨rs++[⟨some ⟨wr.heap.size,0,none⟩,1,[s]⟩],by simp only [List.length_append,List.length_singleton];go_num,by simp;omega,by rw [List.length_append,List.length_singleton,HTK.out,List.map_append,List.map_append,HMAP.out];rfl,HM3.out,HB3.out⟩
  simp [intOf];omega
 have HLM:=oH (show rs.length=ss.length by omega);go_wp2_with fail;go_ret
 exact ⟨_,rs,rfl,by have:=HMAP.out;rw [HLM.out,List.take_length] at this;exact this,HOWN.out,HB.out⟩
def augQ (n:Nat) (M:mRx) (b:Nat->Rat):Nat->Nat->Rat:=fun i j=>if j<n then M i j else b i
theorem zId {n:Nat} {M:mRx} {b:Nat->Rat} {i j:Nat} (h:j<n):augQ n M b i j=M i j:=if_pos h
theorem zIe {n:Nat} {M:mRx} {b:Nat->Rat} {i:Nat}:augQ n M b i n=b i:=if_neg (Nat.lt_irrefl n)
theorem augQ_dig {n k:Nat} {M:mRx} {b:Nat->Rat} (hM:∀ i j,i<n->j<n->zAl k (M i j)) (hb:∀ i,i<n->zAl k (b i)):∀ i j,i<n->j<n+1->zAl k (augQ n M b i j):=fun i j hi _=>by
 by_cases h:j<n
 ·rw [zId h];exact hM i j hi h
 unfold augQ;rw [if_neg h];exact hb i hi
theorem col_matF {rs:List zGh} {ss:List ByteArray} {n:Nat} {b:Nat->Rat} (h:rs.map (·.ss)=ss.map (fun s=>[s])) (hv:VecF ss n b):zCi rs n 1 (fun i _=>b i):=by
 have hl:rs.length=ss.length:=by have:=congrArg List.length h;simpa using this
 have hi':∀ i,(hi:i<rs.length)->rs[i].ss=[ss[i]'oMx]:=fun i hi=>by
  have h1:(rs.map (·.ss))[i]? = (ss.map fun s=>[s])[i]? := by rw [h]
  rw [List.getElem?_map,List.getElem?_map,List.getElem?_eq_getElem hi,List.getElem?_eq_getElem oMx] at h1
  simpa using h1
 refine ⟨by rw [hl];exact hv.len,fun r hr=>?_,fun i k hi hk=>?_,fun i _ hi _=>hv.fit i hi⟩
 ·obtain ⟨i,hi,rfl⟩:=List.getElem_of_mem hr
  rw [hi' i hi];rfl
 have e:=hi' i hi
 have hk0:k=0:=by rw [e] at hk;simpa using hk
 subst hk0;simp only [e,List.getElem_cons_zero];exact hv.cel i oMx
section
variable {B n:Nat} {w w6 w':World} {rows:List RwF} {P:mRx}
theorem TbX.rowAt {R c L:Nat} (h:TbX B w (.slice (some ⟨R,0,none⟩) L c) rows P) (hL:rows.length=L) {i:Nat} (hi:i<rows.length):w.cell? ⟨R,i,none⟩=some rows[i].self:=by
 subst hL;rw [h.o.cellAt i oMx]
 simp [hi]
theorem TbX.rowMid {R c L:Nat} (h:TbX B w (.slice (some ⟨R,0,none⟩) L c) rows P) (hL:rows.length=L) {i:Nat} (hi:i<rows.length) (hg:w.grownBy w6 rows[i].self.ownBlock):w6.cell? ⟨R,i,none⟩=some rows[i].self/\w6.frozen? ⟨R,i,none⟩=false:=by
 have hoo:w6.ownsRow B 83 1 (.slice (some ⟨R,0,none⟩) L c) rows.length (rows.map RwF.self):=h.o.kept hg (zUr h.o (h.r _ (List.getElem_mem hi)) dCx);subst hL;exact ⟨by rw [hoo.cellAt i oMx];simp [hi],hoo.frozenAt i⟩
end
def RetSv (w:World) (n:Nat) (y:Nat->Rat) (e:Ending) (w':World):Prop:=∃ A c,e = .returned (.tuple #[.slice A n c,.int .i64 0])/\VcIn w' A n y/\Below w.heap.size w w'
end Go.Proofs.YtbjaplppalcmgaaGreatDoor
