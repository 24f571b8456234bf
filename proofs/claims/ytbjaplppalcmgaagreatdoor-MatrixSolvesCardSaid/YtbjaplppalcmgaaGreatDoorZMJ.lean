import Derived.Test.YtbjaplppalcmgaaGreatDoorZMI
set_option maxHeartbeats 16000000
set_option maxRecDepth 100000
set_option linter.unusedVariables false
set_option linter.unusedSimpArgs false
set_option linter.unusedSectionVars false
namespace Go.Proofs.YtbjaplppalcmgaaGreatDoor
open Go.RowKit
theorem Tryz.infoRats:(Tryz.prog.info? 25).map (fun i=>(i.zero,i.size,i.bytes))=some (some (.slice none 0 0),1,24):=by kernel_rfl
section
variable {B:Nat} {w w6:World} {V V2:Value} {rs:List zGh} {r:zGh}
theorem zCk.zero (B:Nat) (w:World):zCk B w (.slice none 0 0) []:=⟨World.ownsRow_nil _ _ _ _,fun r hr=>(by cases hr)⟩
theorem zCk.below (h:zCk B w V rs) (hb:Below w.heap.size w w6):zCk B w6 V rs:=⟨zUm h.o hb,fun r hr=>zUm (h.i r hr) hb⟩
theorem zCk.push (h:zCk B w V rs) (hr:w.ownsRow B 43 1 (.slice r.ad r.ss.length r.cp) r.ss.length (sv r.ss)) (ho:w6.ownsRow B 25 1 V2 (rs.length+1) (zXe rs++[.slice r.ad r.ss.length r.cp])) (hg:w.grownBy w6 V.ownBlock):zCk B w6 V2 (rs++[r]):=by
 refine ⟨by rw [List.length_append,List.length_singleton,zXi];exact ho,fun a ha=>?_⟩
 rcases List.mem_append.1 ha with h1|h1
 ·exact (h.i a h1).kept hg (zUr (h.i a h1) h.o dCx)
 rw [List.mem_singleton.1 h1];exact hr.kept hg (zUr hr h.o dCx)
theorem zCk.read {A:oAx} {c:Nat} (h:zCk B w (.slice A rs.length c) rs):zCj w A rs :=
 ⟨zUk h.o,fun r hr=>by
  obtain ⟨A',c',e, -,hs, -⟩:=zUw (h.i r hr);injection e with e1;rw [e1]
  exact hs⟩
end
theorem zIl {B:Nat} {w w1 w2:World} {V:Value} {o:Obj} (hB:Below B w w1) (hs:B<=w1.heap.size) (hg:(w1.alloc o).grownBy w2 V.ownBlock) (hV:∀ k,V.ownBlock=some k->B<=k):Below B w w2 :=
 (hB.alloc hs o).grown hg (by simp;omega) hV
def RetMat (w:World) (b m n:Nat) (e:Ending) (w':World):Prop:=∃ (v:Value) (qss:List (List Rat)) (rs:List zGh),e = .returned v/\qss.length=m/\(∀ l∈qss,l.length=n/\∀ q∈l,zGn q)/\rs.map (·.ss)=qss.map (·.map zXl)/\zCk w.heap.size w' v rs/\Src w' b/\w.grownBy w' (some b)
theorem zCg (b m n:Nat) (w:World) (hs:Src w b) (hm:m<=1000) (hn:n<=1000):Calls Tryz.prog 10 #[.pointer (some ⟨b,0,none⟩),.int .i64 (m:Int),.int .i64 (n:Int)] w (RetMat w b m n):=by
 obtain ⟨i0,hi,hz0,hz1,hz2⟩:=info_parts Tryz.infoRats;have HS:=oH hs;have hbw:=hs.lt;clear hs
 go_enter Tryz.func10,Tryz.ntmps10
 go_wp2_with fail
 go_loopw [7,8] (fun v iv wr=>∃ (qss:List (List Rat)) (rs:List zGh),iv = .int .i64 (rs.length:Int)/\rs.length<=m/\(∀ l∈qss,l.length=n/\∀ q∈l,zGn q)/\rs.map (·.ss)=qss.map (·.map zXl)/\zCk w.heap.size wr v rs/\Src wr b/\w.grownBy wr (some b)) (fun _ iv _=>m-(intOf iv).toNat)
 ·exact ⟨[],[],rfl,oLx,by simp,rfl,zCk.zero _ _,HS.out,World.grownBy.refl _ _⟩
 obtain ⟨qss,rs,rfl,hrm,hsm,hmap,hown,hsr,hgr⟩:=hrel;obtain ⟨AV,cV,rfl, -⟩:=zUj hown.o;have HSM:=oH hsm;have HMAP:=oH hmap;have HOWN:=oH hown;have HSR:=oH hsr;have HGR:=oH hgr;have hsz:=hgr.size;clear hsm hown hsr hgr hmap
 by_cases hlt:rs.length<m
 ·go_wp2_with fail;refine (zFe b n wr HSR.out hn).mono ?_;rintro e w2 ⟨v2,qs,rfl,hql,hqs,ho2,hs2,hg2⟩;have HG2:=oH (zOe HGR.out hg2);have hsz2:w.heap.size<=w2.heap.size:=HG2.size;have hMO:=HOWN.grown hg2 hbw;obtain ⟨A2,c2,rfl, -⟩:=zUj ho2;have HNEW:=oH (zUl ho2 hsz);have HMO:=oH hMO;have HQL:=oH hql;have HQS:=oH hqs;have HS2:=oH hs2
  have hLN:(qs.map zXl).length<=1000:=by simp;omega
  generalize hss:qs.map zXl=ss at *;have HSS:=oH hss;clear ho2 hs2 hg2 hMO hql hqs hss
  go_wp2_with (at_builtin;refine wpList_append_own _ rfl _ _ 24 rfl w.heap.size 25 i0 (.slice none 0 0) 1 24 Tryz.underlying24 hi hz0 hz1 hz2 rfl dCx _ _ _ rfl (HMO.o.alloc _) ⟨w2.heap.size,0,none⟩ 1 1 [_] rfl rfl zTu zZu (by unfold maxLen;omega) oMx (by simp;omega) ?_)
  intro v' w3 hown3 hgrow3 _
  have hlt2:∀ k,(Value.slice AV rs.length cV).ownBlock=some k->w.heap.size<=k:=fun k hk=>(HMO.o.lt k hk).1
  have hbel:Below w.heap.size w2 w3:=zIl bRx hsz2 hgrow3 hlt2;have HM3:=oH ((HMO.below (bA)).push (r:=⟨A2,c2,ss⟩) (zUm HNEW.out (bA)) hown3 hgrow3);have HS3:=oH (HS2.above hbel.size (fun i hi=>hbel.block i oMx));have HG3:=oH (show w.grownBy w3 (some b) from ⟨hbel.os.trans HG2.os,hbel.tape.trans HG2.tape,hbel.output.trans HG2.output,Nat.le_trans HG2.size hbel.size,fun k hk hne=>(hbel.block k hk).trans (HG2.block k hk hne)⟩);clear hown3 hgrow3 hbel hlt2;go_wp2_with fail;go_roundw
  ·exact ⟨qss++[qs],rs++[⟨A2,c2,ss⟩],by simp only [List.length_append,List.length_singleton];go_num,by simp;omega,fun l hl=>(List.mem_append.1 hl).elim (HSM.out l) (fun h=>by rw [List.mem_singleton.1 h];exact ⟨HQL.out,HQS.out⟩),by rw [List.map_append,List.map_append,HMAP.out];simp [HSS.out],HM3.out,HS3.out,HG3.out⟩
  simp [intOf];omega
 have hlm:rs.length=m:=by omega
 have HLM:=oH hlm;clear hlm;go_wp2_with fail;go_ret
 exact ⟨_,qss,rs,rfl,by have:=congrArg List.length HMAP.out;simp at this;rw [<-this];exact HLM.out,HSM.out,HMAP.out,HOWN.out,HSR.out,HGR.out⟩
def zFn (w:World) (ss:List ByteArray) (e:Ending) (w':World):Prop:=∃ (v:Value) (rs:List zGh),e = .returned v/\rs.map (·.ss)=ss.map (fun s=>[s])/\zCk w.heap.size w' v rs/\Below w.heap.size w w'
theorem zAf (A:oAx) (ss:List ByteArray) (c:Nat) (w:World) (h:zGx w A ss) (hl:ss.length<=1000):Calls Tryz.prog 33 #[.slice A ss.length c] w (zFn w ss):=by
 obtain ⟨i0,hi,hz0,hz1,hz2⟩:=info_parts Tryz.infoRats;have HS:=oH h;clear h
 go_enter Tryz.func33,Tryz.ntmps33
 go_wp2_with fail
 go_loopw [3,8] (fun v iv wr=>∃ (rs:List zGh),iv = .int .i64 (rs.length:Int)/\rs.length<=ss.length/\rs.map (·.ss)=(ss.take rs.length).map (fun s=>[s])/\zCk w.heap.size wr v rs/\Below w.heap.size w wr) (fun _ iv _=>ss.length-(intOf iv).toNat)
 ·exact ⟨[],rfl,oLx,rfl,zCk.zero _ _,bRx⟩
 obtain ⟨rs,rfl,hrm,hmap,hown,hb⟩:=hrel;obtain ⟨AV,cV,rfl, -⟩:=zUj hown.o;have HMAP:=oH hmap;have HOWN:=oH hown;have HB:=oH hb;have hsz:=hb.size;clear hmap hown hb
 by_cases hlt:rs.length<ss.length
 ·obtain ⟨b,off,rfl,hbb,hc⟩:=HS.out (by intro e;subst e;simp at hlt);have hci:=(HB.cell (p:=⟨b,off+rs.length,none⟩) hbb).trans (hc rs.length hlt);have HTK:=oH (show ss.take (rs.length+1)=ss.take rs.length++[ss[rs.length]] from List.take_succ_eq_append_getElem hlt);generalize ss[rs.length]=s at *
  have hx1:(0:Int)<=(rs.length:Int):=by omega
  have hx2:(rs.length:Int)<(ss.length:Int):=by omega
  have hmx:rs.length<=1000:=by omega
  have hb1:Below wr.heap.size wr (wr.alloc (.cells #[.string s] 43)):=bA;have hk1:=Blk.new wr 43 [.string s];have HN1:=oH (show (wr.alloc (.cells #[.string s] 43)).ownsRow w.heap.size 43 1 (.slice (some ⟨wr.heap.size,0,none⟩) 1 1) 1 (sv [s]) from ⟨rfl,.inr ⟨wr.heap.size,1,#[.string s],rfl,hsz,hk1,lRx,dCx,rfl,rfl⟩⟩);have HMO:=oH (HOWN.below hb1);have HB1:=oH (HB.alloc hsz (.cells #[.string s] 43));clear hc hk1 hb1
  go_wp2_with (at_builtin;refine wpList_append_own _ rfl _ _ 24 rfl w.heap.size 25 i0 (.slice none 0 0) 1 24 Tryz.underlying24 hi hz0 hz1 hz2 rfl dCx _ _ _ rfl (HMO.o.alloc _) ⟨wr.heap.size+1,0,none⟩ 1 1 [.slice (some ⟨wr.heap.size,0,none⟩) 1 1] rfl rfl (World.news_of_block (cs:=#[.slice (some ⟨wr.heap.size,0,none⟩) 1 1]) (t:=25) (fr:=(0,0)) (Blk.new' sMx _ [.slice (some ⟨wr.heap.size,0,none⟩) 1 1])) zZu (by unfold maxLen;omega) oMx (by simp;omega) ?_)
  intro v' w3 hown3 hgrow3 _
  have hlt2:∀ k,(Value.slice AV rs.length cV).ownBlock=some k->w.heap.size<=k:=fun k hk=>(HMO.o.lt k hk).1
  have HB3:=oH (zIl HB1.out HB1.size hgrow3 hlt2);have HM3:=oH ((HMO.below (bA)).push (r:=⟨some ⟨wr.heap.size,0,none⟩,1,[s]⟩) (zUm HN1.out (bA)) hown3 hgrow3);clear hown3 hgrow3 hlt2;go_wp2_with fail;go_roundw
  ·exact ⟨rs++[⟨some ⟨wr.heap.size,0,none⟩,1,[s]⟩],by simp only [List.length_append,List.length_singleton];go_num,by simp;omega,by rw [List.length_append,List.length_singleton,HTK.out,List.map_append,List.map_append,HMAP.out];rfl,HM3.out,HB3.out⟩
  simp [intOf];omega
 have HLM:=oH (show rs.length=ss.length by omega);go_wp2_with fail;go_ret
 exact ⟨_,rs,rfl,by have:=HMAP.out;rw [HLM.out,List.take_length] at this;exact this,HOWN.out,HB.out⟩
theorem zHb.congr {B:Nat} {w:World} {V:Value} {rows:List zGg} {P P':Nat->Nat->Int} (h:zHb B w V rows P) (he:∀ i,(hi:i<rows.length)->∀ k,k<rows[i].us.length->P' i k=P i k):zHb B w V rows P' :=
 ⟨h.o,h.r,h.nd,fun i hi k hk=>by rw [he i hi k hk];exact h.num i hi k hk,h.nor⟩
structure zGp (B lo hi:Nat) (W0 wr:World) (R cR:Nat) (rw:List zGg) (P:Nat->Nat->Int):Prop where
 tab:zHb B wr (.slice (some ⟨R,0,none⟩) rw.length cR) rw P
 seg:∀ k,lo<=k->k<hi->wr.heap[k]? = W0.heap[k]?
 num:∀ v y,zBs W0 v y->zBs wr v y
 out:∀ r∈rw,r.g<lo\/hi<=r.g
 Rout:R<lo\/hi<=R
 bel:Below B W0 wr
 hi0:hi<=W0.heap.size
 B0:B<=W0.heap.size
section
variable {B lo hi R cR:Nat} {W0 wr w' w8:World} {rw:List zGg} {P:Nat->Nat->Int}
theorem zGp.below (h:zGp B lo hi W0 wr R cR rw P) (hb:Below wr.heap.size wr w'):zGp B lo hi W0 w' R cR rw P :=
 ⟨h.tab.below hb,fun k h1 h2=>(hb.block k (by have:=h.bel.size;have:=h.hi0;omega)).trans (h.seg k h1 h2),fun v y hv=>(h.num v y hv).below hb,h.out,h.Rout,h.bel.trans (hb.mono (Nat.le_trans h.B0 h.bel.size)),h.hi0,h.B0⟩
theorem zGp.alloc (h:zGp B lo hi W0 wr R cR rw P) (o:Obj):zGp B lo hi W0 (wr.alloc o) R cR rw P:=h.below (bRx.alloc lRx o)
theorem zGp.drew (h:zGp B lo hi W0 wr R cR rw P):zGp B lo hi W0 wr.drew R cR rw P:=h.below bRx.drew
theorem zGp.cell (h:zGp B lo hi W0 wr R cR rw P) {p:Addr} (h1:lo<=p.block) (h2:p.block<hi):wr.cell? p=W0.cell? p:=World.cell?_of_block (w:=W0) (h.seg p.block h1 h2)
theorem zGp.mid (h:zGp B lo hi W0 wr R cR rw P) {i:Nat} (hi2:i<rw.length) (hg:wr.grownBy w8 rw[i].self.ownBlock) {p:Addr} (h1:lo<=p.block) (h2:p.block<hi):w8.cell? p=W0.cell? p:=by
 refine World.cell?_of_block (w:=W0) ((hg.block p.block (by have:=h.bel.size;have:=h.hi0;omega) (fun e=>?_)).trans (h.seg p.block h1 h2))
 have e2:p.block=rw[i].g:=by injection e
 rcases h.out _ (List.getElem_mem hi2) with h3|h3<;>omega
theorem zGp.grow (h:zGp B lo hi W0 wr R cR rw P) {i:Nat} (hi2:i<rw.length) {r2:zGg} {u:zCq} {z:Int} (hu2:r2.us=rw[i].us++[u]) (hu:zBs wr u.val z) (hz:P i rw[i].us.length=z)
  (ho:w8.ownsRow B 62 2 r2.self r2.us.length (zTd r2.us)) (hg:wr.grownBy w8 rw[i].self.ownBlock) (hn:NoU w8 r2.self) (hgg:rw[i].g=r2.g\/r2.g=wr.heap.size) :
  zGp B lo hi W0 (w8.setCell ⟨R,i,none⟩ r2.self) R cR (rw.set i r2) P:=by
 obtain ⟨h1,h2,h3⟩:=h.tab.grow hi2 hu2 hu hz ho hg hn hgg;have hsz:=h.bel.size;have hh:=h.hi0;refine ⟨by rw [List.length_set];exact h1,fun k hk1 hk2=>?_,fun v y hv=>h2 v y (h.num v y hv),fun r hr=>?_,h.Rout,h.bel.trans h3,h.hi0,h.B0⟩
 ·rw [Below.heap_setCell w8 ⟨R,i,none⟩ r2.self k (fun e=>by have e2:k=R:=e;rcases h.Rout with h4|h4<;>omega)];refine (hg.block k oMx (fun e=>?_)).trans (h.seg k hk1 hk2)
  have e2:k=rw[i].g:=by injection e
  rcases h.out _ (List.getElem_mem hi2) with h4|h4<;>omega
 rcases List.mem_or_eq_of_mem_set hr with h4|rfl
 ·exact h.out r h4
 rcases hgg with h5|h5
 ·rw [<-h5];exact h.out _ (List.getElem_mem hi2)
 exact .inr oMx
theorem zGp.rowAt (h:zGp B lo hi W0 wr R cR rw P) {i:Nat} (hi2:i<rw.length):wr.cell? ⟨R,i,none⟩=some rw[i].self/\wr.frozen? ⟨R,i,none⟩=false:=by
 refine ⟨?_,h.tab.o.frozenAt i⟩;rw [h.tab.o.cellAt i oMx,List.getElem?_map,List.getElem?_eq_getElem hi2]
 rfl
theorem zGp.rowMid (h:zGp B lo hi W0 wr R cR rw P) {i:Nat} (hi2:i<rw.length) (hg:wr.grownBy w8 rw[i].self.ownBlock):w8.cell? ⟨R,i,none⟩=some rw[i].self/\w8.frozen? ⟨R,i,none⟩=false:=by
 have hoo:w8.ownsRow B 67 1 (.slice (some ⟨R,0,none⟩) rw.length cR) rw.length (rw.map zGg.self):=h.tab.o.kept hg (zUr h.tab.o (h.tab.r _ (List.getElem_mem hi2)) dCx);refine ⟨?_,hoo.frozenAt i⟩;rw [hoo.cellAt i oMx,List.getElem?_map,List.getElem?_eq_getElem hi2]
 rfl
end
theorem xDo {x:Bool} {A:oAx} {l c:Nat}:∀ u∈([.bool x,.slice A l c]:List Value),u.oneCell'=true:=by
 intro u hu
 simp at hu
 rcases hu with rfl|rfl<;>rfl
def zJo (ss:List ByteArray):List zGh:=ss.map fun s=>⟨none,0,[s]⟩
theorem zJp (ss:List ByteArray):(zJo ss).length=ss.length:=by simp [zJo]
theorem matL_col {rs:List zGh} {ss:List ByteArray} (h:rs.map (·.ss)=ss.map fun s=>[s]):zRf rs=zRf (zJo ss):=by
 have e:∀ l:List zGh,zRf l=(l.map (·.ss)).map (·.map xDx):=fun l=>by simp [zRf]
 rw [e,e,h]
 simp [zJo]
theorem zRm {rs:List zGh} {ss:List ByteArray} (h:rs.map (·.ss)=ss.map fun s=>[s]):rs.length=ss.length/\zQz rs=zQz (zJo ss)/\zRg rs=zRg (zJo ss)/\zOh rs 1=zOh (zJo ss) 1:=by
 have hl:rs.length=ss.length:=by have:=congrArg List.length h;simpa using this
 have hL:=matL_col h
 have hD:zQz rs=zQz (zJo ss):=by unfold zQz;rw [hL]
 have hQ:zRi rs=zRi (zJo ss):=by unfold zRi;rw [hL]
 have hP:zRg rs=zRg (zJo ss):=by funext i k;unfold zRg;rw [hD,hQ]
 refine ⟨hl,hD,hP,?_⟩;unfold zOh;rw [hD,hP,hl,zJp]
theorem zNc {rs:List zGh} {ss:List ByteArray} (h:rs.map (·.ss)=ss.map fun s=>[s]) (hl:ss.length<=12) (h1:1<=ss.length) (hv:∀ s∈ss,vR s=true/\s.size<=4000000000):zBb rs 1:=by
 have hlr:=(zRm h).1
 have hr:∀ r∈rs,∃ s∈ss,r.ss=[s]:=fun r hr=>by
  have:r.ss∈rs.map (·.ss):=List.mem_map.2 ⟨r,hr,rfl⟩;rw [h] at this;obtain ⟨s,hs,e⟩:=List.mem_map.1 this;exact ⟨s,hs,e.symm⟩
 refine ⟨oMx,dCx,fun r h2=>?_,fun r h2 s h3=>?_,fun e=>by rw [e] at hlr;simp at hlr;omega⟩
 ·obtain ⟨s, -,e⟩:=hr r h2;rw [e];rfl
 obtain ⟨s',hs',e⟩:=hr r h2;rw [e] at h3;rw [List.mem_singleton.1 h3];exact hv _ hs'
noncomputable def xAb (rs:List zGh) (ss:List ByteArray) (i k:Nat):Int:=if k=rs.length then zRg (zJo ss) i 0 else zRg rs i k
noncomputable def xAc (rs:List zGh) (ss:List ByteArray) (s:zAr) (i:Nat):Rat:=Rat.divInt (s.P i rs.length*zQz rs) (s.v*zQz (zJo ss))
def zGo (heavy:Bool) (s:zAr) (m:Nat) (q:Nat->Rat) (w:World) (e:Ending) (w':World):Prop :=
 match heavy with
 | true=>e = .returned (.tuple #[.slice none 0 0,.int .i64 3])/\Below w.heap.size w w'
 | false=>(s.ps.length<m/\e = .returned (.tuple #[.slice none 0 0,.int .i64 6])/\Below w.heap.size w w')\/(s.ps.length=m/\zGc w ((List.range m).map q) e w')
theorem zJq (ss:List ByteArray):(zJo ss).map (·.ss)=ss.map fun s=>[s]:=by simp [zJo]
theorem sol_LL {rs:List zGh} {ss:List ByteArray} (hf:zBb rs rs.length) (hm1:1<=rs.length) (hsl:ss.length=rs.length) (hv:∀ s∈ss,vR s=true/\s.size<=4000000000) (h1:¬600<zOh rs rs.length) (h2:¬600<zOh (zJo ss) 1):∀ i k,i<rs.length->LL (xAb rs ss i k)<=70:=fun i k hi=>by
 have hfc:zBb (zJo ss) 1:=zNc (zJq ss) (by have:=hf.m;omega) oMx hv;unfold xAb
 split
 ·exact zPo hfc (by rw [zJp];omega) oMx i 0 (by rw [zJp];omega)
 exact zPo hf hm1 oMx i k hi
theorem zGq (A Ab:oAx) (c cb:Nat) (rs:List zGh) (ss:List ByteArray) (w:World) (h:zCj w A rs) (hf:zBb rs rs.length) (hm1:1<=rs.length) (hs:zGx w Ab ss) (hsl:ss.length=rs.length) (hv:∀ s∈ss,vR s=true/\s.size<=4000000000) (henv:Env w) :
  Calls Tryz.prog 13 #[.slice A rs.length c,.slice Ab ss.length cb] w (zGo (decide (600<zOh rs rs.length) || decide (600<zOh (zJo ss) 1)) (eli rs.length (xAb rs ss) rs.length) rs.length (xAc rs ss (eli rs.length (xAb rs ss) rs.length)) w):=by
 obtain ⟨i0,hi,hz0,hz1,hz2⟩:=info_parts Tryz.infoNum;obtain ⟨f0,hf0,hfz0,hfz1,hfz2⟩:=info_parts Tryz.infoFrac;generalize hQ:zGo (decide (600<zOh rs rs.length) || decide (600<zOh (zJo ss) 1)) (eli rs.length (xAb rs ss) rs.length) rs.length (xAc rs ss (eli rs.length (xAb rs ss) rs.length)) w=Q;replace hQ:=oH hQ;have HM:=oH h;have HF:=oH hf;have HE:=oH henv;have HS:=oH hs;have HV:=oH hv;have HSL:=oH hsl;have hm12:=hf.m;have HSQ:=oH (xAo A rs c w h hf henv)
 have hnn:((ss.length:Int) != (rs.length:Int))=false:=by simp;omega
 have hsl12:ss.length<=12:=by omega
 have hsl1:1<=ss.length:=by omega
 clear h hf henv hs hv hsl
 go_enter Tryz.func13,Tryz.ntmps13
 go_wp2_with fail;refine HSQ.mono ?_;rintro e w1 ⟨rfl,hb1⟩;have HB1:=oH hb1;have HNB:=zTc Ab ss cb w1 (HS.below hb1) oMx (fun s hs=>(HV.out s hs).2) (HE.below hb1);rw [show ss.all vR=true from List.all_eq_true.2 fun s hs=>(HV.out s hs).1] at HNB;replace HNB:=oH HNB;clear hb1;go_wp2_with fail;refine HNB.mono ?_;rintro e w1' ⟨rfl,hb1⟩;have HB1':=bTx2 HB1 hb1;have HHV:=zBh A c rs.length rs w1' (HM.below HB1'.out) HF.out hm1 hm1 (HE.below HB1'.out);clear hb1 hnn
 by_cases hh:600<zOh rs rs.length
 ·rw [show decide (600<zOh rs rs.length)=true from by simpa using hh] at HHV hQ;rw [Bool.true_or] at hQ;replace HHV:=oH HHV;clear hh;go_wp2_with fail;refine HHV.mono ?_;rintro e w2 ⟨rfl,hb2⟩;have HB2:=oH (HB1'.trans (hb2.mono HB1'.size));clear hb2;go_wp2_with fail;rw [<-hQ.out];exact ⟨rfl,HB2.out⟩
 rw [show decide (600<zOh rs rs.length)=false from by simpa using hh] at HHV hQ;rw [Bool.false_or] at hQ;replace HHV:=oH HHV;have HH:=oH hh;clear hh;go_wp2_with fail;refine HHV.mono ?_;rintro e w2 ⟨rfl,hb2⟩;have HB2:=oH (HB1'.trans (hb2.mono HB1'.size));have HCO:=oH (zAf Ab ss cb w2 (HS.below HB2.out) oMx);clear hb2;go_wp2_with fail;refine HCO.mono ?_;rintro e w3 ⟨v3,rs3,rfl,hmap3,hmo3,hb3⟩;have HB3:=bTx2 HB2 hb3;obtain ⟨A3,c3,rfl, -⟩:=zUj hmo3.o;obtain ⟨e1,e2,e3,e4⟩:=zRm hmap3;have HHC:=zBh A3 c3 1 rs3 w3 hmo3.read (zNc hmap3 hsl12 hsl1 HV.out) oMx lRx (HE.below HB3.out);rw [e4] at HHC;clear hmo3 hb3 e1 e2 e3 e4 hmap3
 by_cases hh2:600<zOh (zJo ss) 1
 ·rw [show decide (600<zOh (zJo ss) 1)=true from by simpa using hh2] at HHC hQ;replace HHC:=oH HHC;clear hh2;go_wp2_with fail;refine HHC.mono ?_;rintro e w4 ⟨rfl,hb4⟩;have HB4:=bTx2 HB3 hb4;clear hb4;go_wp2_with fail;rw [<-hQ.out];exact ⟨rfl,HB4.out⟩
 rw [show decide (600<zOh (zJo ss) 1)=false from by simpa using hh2] at HHC hQ;replace HHC:=oH HHC;have HH2:=oH hh2;clear hh2;go_wp2_with fail;refine HHC.mono ?_;rintro e w4 ⟨rfl,hb4⟩;have HB4:=bTx2 HB3 hb4;have HOF:=oH (zCs A c rs.length rs w4 (HM.below HB4.out) HF.out hm1 hm1 (HE.below HB4.out));clear hb4;go_wp2_with fail;refine HOF.mono ?_;rintro e w5 ⟨R,cR,rows,dv,rfl,hl,ht,hnV,hnr,hd,hb5⟩;have HB5:=bTx2 HB4 hb5;have HTW:=oH ((show zHa w4.heap.size w5 (.slice (some ⟨R,0,none⟩) rows.length cR) rows rs.length (zRg rs) by rw [hl];exact ht).toW hnr);have HL:=oH hl;have HLU:=oH ht.l;have HD:=oH hd;have HCO2:=oH (zAf Ab ss cb w5 (HS.below HB5.out) oMx);clear hb5 ht hnV hnr hd hl;go_wp2_with fail;refine HCO2.mono ?_;rintro e w6 ⟨v6,rs6,rfl,hmap6,hmo6,hb6⟩;have HB6:=bTx2 HB5 hb6;obtain ⟨A6,c6,rfl, -⟩:=zUj hmo6.o;obtain ⟨e1,e2,e3,e4⟩:=zRm hmap6;have HOC:=zCs A6 c6 1 rs6 w6 hmo6.read (zNc hmap6 hsl12 hsl1 HV.out) oMx lRx (HE.below HB6.out)
 rw [e2,e3] at HOC;have HTW6:=oH (HTW.below hb6);have HD6:=oH (HD.below hb6);replace HOC:=oH HOC;have HL6:=oH e1;have HS56:=oH hb6.size;clear hmo6 hb6 e1 e2 e3 e4 hmap6;go_wp2_with fail;refine HOC.mono ?_;rintro e w7 ⟨R8,cR8,rows8,dv8,rfl,hl8,ht8, -, -,hd8,hb7⟩;have HB7:=bTx2 HB6 hb7;have HTW7:=oH (HTW6.below hb7);have HD7:=oH (HD6.below hb7);have HD8:=oH hd8;have HT8:=oH (show TabR w7 (some ⟨R8,0,none⟩) rows8 1 (zRg (zJo ss)) from (show zHa w6.heap.size w7 (.slice (some ⟨R8,0,none⟩) rows8.length cR8) rows8 1 (zRg (zJo ss)) by rw [hl8];exact ht8).read);have HL8:=oH hl8;have HR8:=oH (ht8.o.lt R8 rfl);have HG8:=oH (fun j (hj:j<rows8.length)=>ht8.blk hj);have HS67:=oH hb7.size;clear ht8 hd8 hb7 hl8;go_wp2_with fail;have HX7:=oH ((Blk.new w7 65 [.bool dv.nb,.slice dv.ad dv.l dv.c,.slice (some ⟨R,0,none⟩) rs.length cR]).alloc (.cells #[.bool dv8.nb,.slice dv8.ad dv8.l dv8.c,.slice (some ⟨R8,0,none⟩) rs6.length cR8] 65))
 have HX8:=oH (Blk.new' (w:=w7.alloc (.cells #[.bool dv.nb,.slice dv.ad dv.l dv.c,.slice (some ⟨R,0,none⟩) rs.length cR] 65)) (g:=w7.heap.size+1) sMx 65 [.bool dv8.nb,.slice dv8.ad dv8.l dv8.c,.slice (some ⟨R8,0,none⟩) rs6.length cR8]);have hbW:Below w7.heap.size w7 ((w7.alloc (.cells #[.bool dv.nb,.slice dv.ad dv.l dv.c,.slice (some ⟨R,0,none⟩) rs.length cR] 65)).alloc (.cells #[.bool dv8.nb,.slice dv8.ad dv8.l dv8.c,.slice (some ⟨R8,0,none⟩) rs6.length cR8] 65)):=(bA).alloc sMx _
 have HS0:=oH (show zGp w4.heap.size w5.heap.size (w7.heap.size+2) ((w7.alloc (.cells #[.bool dv.nb,.slice dv.ad dv.l dv.c,.slice (some ⟨R,0,none⟩) rs.length cR] 65)).alloc (.cells #[.bool dv8.nb,.slice dv8.ad dv8.l dv8.c,.slice (some ⟨R8,0,none⟩) rs6.length cR8] 65)) ((w7.alloc (.cells #[.bool dv.nb,.slice dv.ad dv.l dv.c,.slice (some ⟨R,0,none⟩) rs.length cR] 65)).alloc (.cells #[.bool dv8.nb,.slice dv8.ad dv8.l dv8.c,.slice (some ⟨R8,0,none⟩) rs6.length cR8] 65)) R cR rows (xAb rs ss) from
  ⟨(HTW7.below hbW).congr (fun i hi k hk=>by
   have h9:=HLU.out _ (List.getElem_mem hi);unfold xAb
   rw [if_neg oMx]),fun k _ _=>rfl,fun v y hv=>hv,fun r hr => .inl ((HTW.r r hr).lt _ rfl).2,.inl (HTW.o.lt R rfl).2,bRx,by simp,by have:=HB5.size;have:=HTW.o.lt R rfl;have:=HS56.out;have:=HS67.out;simp;omega⟩)
 have HT8W:=oH (HT8.below hbW);have HLR:=oH (fun j (hj:j<rows.length)=>HLU.out _ (List.getElem_mem hj));have HBW:=bTx2 HB7 hbW;have HD7W:=oH (HD7.below hbW);have HD8W:=oH (HD8.below hbW);clear hbW;generalize ((w7.alloc (.cells #[.bool dv.nb,.slice dv.ad dv.l dv.c,.slice (some ⟨R,0,none⟩) rs.length cR] 65)).alloc (.cells #[.bool dv8.nb,.slice dv8.ad dv8.l dv8.c,.slice (some ⟨R8,0,none⟩) rs6.length cR8] 65))=W0 at *;generalize w7.heap.size=x at *
 go_loopw [45] (fun iv wr=>∃ (i:Nat) (rw:List zGg),iv = .int .i64 (i:Int)/\i<=rs.length/\rw.length=rs.length/\(∀ j,(h:j<rw.length)->rw[j].us.length=if j<i then rs.length+1 else rs.length)/\zGp w4.heap.size w5.heap.size (x+2) W0 wr R cR rw (xAb rs ss)) (fun iv _=>rs.length-(intOf iv).toNat)
 ·exact ⟨0,rows,rfl,oLx,HL.out,fun j hj=>by rw [if_neg oMx];exact HLR.out j hj,HS0.out⟩
 obtain ⟨i,rw,rfl,hi2,hrl,hul,hts⟩:=hrel;have HRL:=oH hrl;have HUL:=oH hul;have HTS:=oH hts
 by_cases hlt:i<rs.length
 ·have hi3:i<rw.length:=by omega
  have hi8:i<rows8.length:=by have:=HL8.out;have:=HL6.out;have:=HSL.out;omega
  have s56:=HS56.out;have s67:=HS67.out;have r8:=HR8.out;have g8:=HG8.out i hi8;have d0:=HX7.at_ (i:=2) rfl;have d1:=HX8.at_ (i:=2) rfl;have d2:=HT8W.o.at_ (i:=i) (List.getElem?_eq_getElem (by simpa using hi8));simp only [List.getElem_map,zGg.val,Nat.zero_add] at d2;have hr8:=HT8W.r _ (List.getElem_mem hi8);have hl8:=HT8W.l _ (List.getElem_mem hi8);have hn8:=HT8W.num i hi8;generalize rows8[i]=q8 at *;obtain ⟨rg8,rc8,us8⟩:=q8;simp only at d2 hr8 hl8 hn8 g8
  have h08:0<us8.length:=by omega
  have d3:=hr8.at_ (zTe h08).1;have d4:=hr8.at_ (zTe h08).2;simp only [Nat.zero_mul,Nat.zero_add] at d3 d4;have hz8:zBs W0 us8[0].val (zRg (zJo ss) i 0):=hn8 0 h08;generalize us8[0]=u8 at *;obtain ⟨nbz,Sz,lz,cz⟩:=u8;clear hr8 hl8 hn8 h08;have huli:=hul i hi3;rw [if_neg oMx] at huli;have hmem:=List.getElem_mem hi3;obtain ⟨r,hr⟩:=eXx (rw[i]);have HRE:=oH hr;rw [hr] at huli hmem;obtain ⟨rg,rc,us⟩:=r;replace huli:us.length=rs.length:=huli;have hself:zGg.self ⟨rg,rc,us⟩ = .slice (some ⟨rg,0,none⟩) rs.length rc:=zYy huli;have hta:=(hts.alloc (.cells #[.bool nbz,.slice Sz lz cz] 62)).drew;have HNZ:=oH (show zBs (wr.alloc (.cells #[.bool nbz,.slice Sz lz cz] 62)).drew (zCq.val ⟨nbz,Sz,lz,cz⟩) (zRg (zJo ss) i 0) from (hts.num _ _ hz8).below bA.drew)
  have HOA:=oH (show (wr.alloc (.cells #[.bool nbz,.slice Sz lz cz] 62)).drew.ownsRow w4.heap.size 62 2 (.slice (some ⟨rg,0,none⟩) rs.length rc) rs.length (zTd us) from by
   have h9:=hta.tab.r _ hmem;rw [hself,huli] at h9
   exact h9)
  have HNA:=oH (show NoU (wr.alloc (.cells #[.bool nbz,.slice Sz lz cz] 62)).drew (.slice (some ⟨rg,0,none⟩) rs.length rc) from by
   have h9:=hta.tab.nor _ hmem;rw [hself] at h9
   exact h9)
  have HBA:=oH (show w4.heap.size<=(wr.alloc (.cells #[.bool nbz,.slice Sz lz cz] 62)).drew.heap.size from Nat.le_trans hta.B0 hta.bel.size)
  have HGR:=oH (fun (g2 cap2:Nat) (w8:World) (h1:w8.ownsRow w4.heap.size 62 2 (.slice (some ⟨g2,0,none⟩) (rs.length+1) cap2) (rs.length+1) (zTd us++[.bool nbz,.slice Sz lz cz])) (h2:(wr.alloc (.cells #[.bool nbz,.slice Sz lz cz] 62)).drew.grownBy w8 (Value.slice (some ⟨rg,0,none⟩) rs.length rc).ownBlock) (h3:NoU w8 (.slice (some ⟨g2,0,none⟩) (rs.length+1) cap2)) (h4:(Value.slice (some ⟨rg,0,none⟩) rs.length rc).ownBlock=some g2\/g2=(wr.alloc (.cells #[.bool nbz,.slice Sz lz cz] 62)).drew.heap.size) =>
   (show zGp w4.heap.size w5.heap.size (x+2) W0 (w8.setCell ⟨R,i,none⟩ (.slice (some ⟨g2,0,none⟩) (rs.length+1) cap2)) R cR (rw.set i ⟨g2,cap2,us++[⟨nbz,Sz,lz,cz⟩]⟩) (xAb rs ss) from by
    have e1:zGg.self ⟨g2,cap2,us++[⟨nbz,Sz,lz,cz⟩]⟩ = .slice (some ⟨g2,0,none⟩) (rs.length+1) cap2:=zYy (by simp only [List.length_append,List.length_singleton];omega);have h9:=hta.grow (w8:=w8) hi3 (r2:=⟨g2,cap2,us++[⟨nbz,Sz,lz,cz⟩]⟩) (u:=⟨nbz,Sz,lz,cz⟩) (z:=zRg (zJo ss) i 0) (by rw [HRE.out]) HNZ.out (by rw [HRE.out];unfold xAb;rw [if_pos huli]) (by rw [e1,show (us++[(⟨nbz,Sz,lz,cz⟩:zCq)]).length=rs.length+1 by simp only [List.length_append,List.length_singleton];omega,zTi];exact h1) (by rw [HRE.out,hself];exact h2) (by rw [e1];exact h3) (by rw [HRE.out];exact h4.imp (fun h5=>by injection h5 with h6) id);rw [e1] at h9
    exact h9))
  have HRM:=oH (fun (w8:World) (h2:(wr.alloc (.cells #[.bool nbz,.slice Sz lz cz] 62)).drew.grownBy w8 (Value.slice (some ⟨rg,0,none⟩) rs.length rc).ownBlock)=>(show w8.cell? ⟨R,i,none⟩=some (.slice (some ⟨rg,0,none⟩) rs.length rc)/\w8.frozen? ⟨R,i,none⟩=false from by
   have h9:=hta.rowMid hi3 (w8:=w8) (by rw [HRE.out,hself];exact h2);rw [HRE.out,hself] at h9
   exact h9))
  have HMD:=oH (fun (w8:World) (h2:(wr.alloc (.cells #[.bool nbz,.slice Sz lz cz] 62)).drew.grownBy w8 (Value.slice (some ⟨rg,0,none⟩) rs.length rc).ownBlock)=>(show w8.cell? ⟨x,2,none⟩=some (.slice (some ⟨R,0,none⟩) rs.length cR)/\w8.cell? ⟨x+1,2,none⟩=some (.slice (some ⟨R8,0,none⟩) rs6.length cR8)/\w8.cell? ⟨R8,i,none⟩=some (.slice (some ⟨rg8,0,none⟩) 1 rc8)/\w8.cell? ⟨rg8,0,none⟩=some (.bool nbz)/\w8.cell? ⟨rg8,1,none⟩=some (.slice Sz lz cz) from by
   have h3:(wr.alloc (.cells #[.bool nbz,.slice Sz lz cz] 62)).drew.grownBy w8 rw[i].self.ownBlock:=by rw [HRE.out,hself];exact h2
   exact ⟨(hta.mid hi3 h3 (by show w5.heap.size<=x;omega) (by show x<x+2;omega)).trans d0,(hta.mid hi3 h3 (by show w5.heap.size<=x+1;omega) (by show x+1<x+2;omega)).trans d1,(hta.mid hi3 h3 (by show w5.heap.size<=R8;omega) (by show R8<x+2;omega)).trans d2,(hta.mid hi3 h3 (by show w5.heap.size<=rg8;omega) (by show rg8<x+2;omega)).trans d3,(hta.mid hi3 h3 (by show w5.heap.size<=rg8;omega) (by show rg8<x+2;omega)).trans d4⟩))
  have p0:=(hts.cell (by show w5.heap.size<=x;omega) (by show x<x+2;omega)).trans d0;have p1:=(hts.cell (by show w5.heap.size<=x+1;omega) (by show x+1<x+2;omega)).trans d1;have p2:=(hts.cell (by show w5.heap.size<=R8;omega) (by show R8<x+2;omega)).trans d2;have p3:=(hts.cell (by show w5.heap.size<=rg8;omega) (by show rg8<x+2;omega)).trans d3;have p4:=(hts.cell (by show w5.heap.size<=rg8;omega) (by show rg8<x+2;omega)).trans d4;have p5:=(hts.rowAt hi3).1;have p5a:=(hta.rowAt hi3).1;rw [HRE.out,hself] at p5 p5a;have KS0:Hid (wr.drew.cell? ⟨x,2,none⟩=some (.slice (some ⟨R,0,none⟩) rs.length cR)/\wr.drew.cell? ⟨x+1,2,none⟩=some (.slice (some ⟨R8,0,none⟩) rs6.length cR8)/\wr.drew.cell? ⟨R8,i,none⟩=some (.slice (some ⟨rg8,0,none⟩) 1 rc8)/\wr.drew.cell? ⟨rg8,0,none⟩=some (.bool nbz)/\wr.drew.cell? ⟨rg8,1,none⟩=some (.slice Sz lz cz)):=oH ⟨p0,p1,p2,p3,p4⟩;have KSA:Hid ((wr.alloc (.cells #[.bool nbz,.slice Sz lz cz] 62)).drew.cell? ⟨x,2,none⟩=some (.slice (some ⟨R,0,none⟩) rs.length cR)/\(wr.alloc (.cells #[.bool nbz,.slice Sz lz cz] 62)).drew.cell? ⟨x+1,2,none⟩=some (.slice (some ⟨R8,0,none⟩) rs6.length cR8)/\(wr.alloc (.cells #[.bool nbz,.slice Sz lz cz] 62)).drew.cell? ⟨R8,i,none⟩=some (.slice (some ⟨rg8,0,none⟩) 1 rc8)/\(wr.alloc (.cells #[.bool nbz,.slice Sz lz cz] 62)).drew.cell? ⟨rg8,0,none⟩=some (.bool nbz)/\(wr.alloc (.cells #[.bool nbz,.slice Sz lz cz] 62)).drew.cell? ⟨rg8,1,none⟩=some (.slice Sz lz cz)):=oH ⟨(hta.cell (by show w5.heap.size<=x;omega) (by show x<x+2;omega)).trans d0,(hta.cell (by show w5.heap.size<=x+1;omega) (by show x+1<x+2;omega)).trans d1,(hta.cell (by show w5.heap.size<=R8;omega) (by show R8<x+2;omega)).trans d2,(hta.cell (by show w5.heap.size<=rg8;omega) (by show rg8<x+2;omega)).trans d3,(hta.cell (by show w5.heap.size<=rg8;omega) (by show rg8<x+2;omega)).trans d4⟩
  have i1:(0:Int)<=(i:Int):=by omega
  have i2:(i:Int)<(rs.length:Int):=by omega
  have i3:(i:Int)<(rs6.length:Int):=by have:=HL6.out;have:=HSL.out;omega
  have hR5:R<w5.heap.size:=(HTW.o.lt R rfl).2
  have nR0:¬(R=x):=by omega
  have nR1:¬(x=R):=by omega
  have nR2:¬(R=x+1):=by omega
  have nR3:¬(x+1=R):=by omega
  have nR4:¬(R=R8):=by omega
  have nR5:¬(R8=R):=by omega
  have nR6:¬(R=rg8):=by omega
  have nR7:¬(rg8=R):=by omega
  clear hta hts hul huli hself hmem hr hrl d0 d1 d2 d3 d4 hz8 s56 s67 r8 g8;go_wp2_with fail;refine xGe (S:=(fun w'=>w'.cell? ⟨R,i,none⟩=some (.slice (some ⟨rg,0,none⟩) rs.length rc)/\w'.cell? ⟨x,2,none⟩=some (.slice (some ⟨R,0,none⟩) rs.length cR)/\w'.cell? ⟨x+1,2,none⟩=some (.slice (some ⟨R8,0,none⟩) rs6.length cR8)/\w'.cell? ⟨R8,i,none⟩=some (.slice (some ⟨rg8,0,none⟩) 1 rc8)/\w'.cell? ⟨rg8,0,none⟩=some (.bool nbz)/\w'.cell? ⟨rg8,1,none⟩=some (.slice Sz lz cz))) 18 (by kernel_rfl) rfl (by kernel_rfl) (by kernel_rfl) rfl (by exact ⟨p5,KS0.out⟩) (fun hHeld=>?_);simp only [List.pop_toArray,List.dropLast_cons_cons,List.dropLast_singleton];refine tkH 0 ?_;refine tkH 1 ?_;refine tkH 2 ?_;refine tkH 3 ?_;refine tkH 4 ?_;refine tkH 5 ?_;refine tkH 6 ?_;refine tkH 7 ?_;refine tkH 8 ?_;refine tkH 9 ?_;refine tkH 10 ?_;refine tkH 11 ?_;refine tkH 12 ?_;refine tkH 13 ?_;refine tkH 14 ?_
  try simp only [Act.put,tkA,tkB,tkC]
  refine tkS 15 fun K hK=>?_
  go_simp
  refine hK.out _ _ ?_ (fun hHeld=>?_)
  ·first|exact ⟨p5,KS0.out⟩|exact ⟨p5a,KSA.out⟩|exact ⟨u6,KS8.out⟩
  clear hK K
  try simp only [Act.put,tkA,tkB,tkC]
  refine tkS 16 fun K hK=>?_
  (refine xAw _ (by rfl) _ _ _ (by rfl) w4.heap.size 62 i0 _ 2 32 Tryz.underlying67 hi hz0 hz1 hz2 rfl dCx (.slice (some ⟨rg,0,none⟩) rs.length rc) rs.length (zTd us) (by go_simp) HOA.out ⟨wr.heap.size,0,none⟩ 1 1 [.bool nbz,.slice Sz lz cz] (by go_simp) rfl (World.news_of_block (cs:=#[.bool nbz,.slice Sz lz cz]) (t:=62) (fr:=(0,0)) (heap_alloc_new wr _)) xDo oMx (by unfold maxLen;omega) oMx HBA.out HNA.out zTk zTj ?_;intro g2 cap2 w8 hown8 hgrow8 hno8 hgg8;have HG:=oH (HGR.out g2 cap2 w8 hown8 hgrow8 hno8 hgg8);have hrm:=HRM.out w8 hgrow8;have u6:=hrm.1;have u7:=hrm.2;have KS8:=oH (HMD.out w8 hgrow8);obtain ⟨u0,u1,u2,u3,u4⟩:=KS8.out;clear hown8 hgrow8 hno8 hgg8 hrm)
  refine hK.out _ _ ?_ (fun hHeld=>?_)
  ·first|exact ⟨p5,KS0.out⟩|exact ⟨p5a,KSA.out⟩|exact ⟨u6,KS8.out⟩
  clear hK K
  try simp only [Act.put,tkA,tkB,tkC]
  refine tkH 17 ?_
  try simp only [Act.put,tkA,tkB,tkC]
  refine wpAnyH_done (by kernel_rfl) ?_ _;simp only [xCo,List.getElem_toArray,List.getElem_cons_succ,List.getElem_cons_zero]
  all_goals
   go_wp2_with fail;go_roundw
   ·exact ⟨i+1,rw.set i ⟨g2,cap2,us++[⟨nbz,Sz,lz,cz⟩]⟩,by go_num,oMx,by rw [List.length_set];exact HRL.out,fun j hj=>by
    have hj':j<rw.length:=by simpa using hj
    by_cases e:j=i
    ·subst e;rw [List.getElem_set_self,if_pos oMx];simp only [List.length_append,List.length_singleton];have h9:=HUL.out j hj';rw [if_neg oMx,HRE.out] at h9;have h8:us.length=rs.length:=h9;omega
    rw [List.getElem_set_ne (Ne.symm e),HUL.out j hj']
    by_cases e2:j<i
    ·rw [if_pos e2,if_pos oMx]
    rw [if_neg e2,if_neg oMx],HG.out⟩
   simp [intOf];omega
 obtain rfl:i=rs.length:=by omega
 have hall:∀ r∈rw,r.us.length=rs.length+1:=fun r hr=>by
  obtain ⟨j,hj,rfl⟩:=List.getElem_of_mem hr;rw [hul j hj,if_pos oMx]
 have HLS:=oH (sol_LL HF.out hm1 HSL.out HV.out HH.out HH2.out);have HRD:=zFi (some ⟨R,0,none⟩) cR (rs.length+1) rs.length rw (xAb rs ss) wr (hts.tab.toN hall).read oMx oMx oMx oMx oMx (fun i k hi=>HLS.out i k oMx);rw [hrl] at HRD;replace HRD:=oH HRD;have s56:=HS56.out;have s67:=HS67.out;have p0:=(hts.cell (p:=⟨x,2,none⟩) (by show w5.heap.size<=x;omega) (by show x<x+2;omega)).trans (HX7.at_ (i:=2) rfl);have HXA:=oH (show Blk wr x 65 [.bool dv.nb,.slice dv.ad dv.l dv.c,.slice (some ⟨R,0,none⟩) rs.length cR] from (hts.seg x oMx oMx).trans HX7.out);have HXB:=oH (show Blk wr (x+1) 65 [.bool dv8.nb,.slice dv8.ad dv8.l dv8.c,.slice (some ⟨R8,0,none⟩) rs6.length cR8] from (hts.seg (x+1) oMx oMx).trans HX8.out);have HDA:=oH (hts.num _ _ HD7W.out);have HDB:=oH (hts.num _ _ HD8W.out);have HBr:=oH (show Below w4.heap.size W0 wr from hts.bel);clear hall hul hts hrl s56 s67 HUL HTS;go_wp2_with fail;refine HRD.mono ?_
 rintro e w9 ⟨R4,cR4,rows4,pv,v,rfl,hl4,hrr,hb9⟩;obtain ⟨Ap,cp,rfl, -⟩:=zUj hrr.pvt;have HBq:=oH (HBW.trans (HBr.mono HB4.size));have HB9:=bTx2 HBq hb9;have HEL:=oH (zMu (m:=rs.length) (fun i k hi=>HLS.out i k hi) zBz rs.length)
 have hv0:(eli rs.length (xAb rs ss) rs.length).v≠0:=by
  obtain ⟨F,hg, -⟩:=zMt rs.length (xAb rs ss) rs.length
  intro e
  exact hg.v0 (by rw [e];rfl)
 have HXA9:=oH (HXA.below hb9);have HXB9:=oH (HXB.below hb9);have HDA9:=oH (HDA.below hb9);have HDB9:=oH (HDB.below hb9);generalize eli rs.length (xAb rs ss) rs.length=s at *;obtain ⟨pl,hpl⟩:=eXx (s.ps.length);have HPL:=oH hpl;rw [hpl] at HEL;rw [hpl];have HB10:=oH (HB9.alloc HB9.size (.cells #[.slice (some ⟨R4,0,none⟩) rs.length cR4,.slice Ap pl cp,.bool v.nb,.slice v.ad v.l v.c,.bool s.odd] 69));have HT10:=oH (Blk.new w9 69 [.slice (some ⟨R4,0,none⟩) rs.length cR4,.slice Ap pl cp,.bool v.nb,.slice v.ad v.l v.c,.bool s.odd]);have HR10:=hrr.below (bRx.alloc lRx (.cells #[.slice (some ⟨R4,0,none⟩) rs.length cR4,.slice Ap pl cp,.bool v.nb,.slice v.ad v.l v.c,.bool s.odd] 69));rw [hpl] at HR10;replace HR10:=oH HR10;have HXA10:=oH (HXA9.alloc (.cells #[.slice (some ⟨R4,0,none⟩) rs.length cR4,.slice Ap pl cp,.bool v.nb,.slice v.ad v.l v.c,.bool s.odd] 69));have HXB10:=oH (HXB9.alloc (.cells #[.slice (some ⟨R4,0,none⟩) rs.length cR4,.slice Ap pl cp,.bool v.nb,.slice v.ad v.l v.c,.bool s.odd] 69))
 have HDA10:=oH (HDA9.below (bRx.alloc lRx (.cells #[.slice (some ⟨R4,0,none⟩) rs.length cR4,.slice Ap pl cp,.bool v.nb,.slice v.ad v.l v.c,.bool s.odd] 69)));have HDB10:=oH (HDB9.below (bRx.alloc lRx (.cells #[.slice (some ⟨R4,0,none⟩) rs.length cR4,.slice Ap pl cp,.bool v.nb,.slice v.ad v.l v.c,.bool s.odd] 69)));have HL4:=oH hl4;clear hb9 hrr hl4 hpl p0
 by_cases hlt9:pl<rs.length
 ·have hx9:(pl:Int)<(rs.length:Int):=by omega
  go_wp2_with fail;rw [<-hQ.out];exact .inl ⟨by rw [HPL.out];exact hlt9,rfl,HB10.out⟩
 have hx9:¬(pl:Int)<(rs.length:Int):=by omega
 have hpe:pl=rs.length:=by have:=HEL.2.2;omega
 have HPE:=oH hpe;clear hpe;go_wp2_with fail;generalize (w9.alloc (.cells #[.slice (some ⟨R4,0,none⟩) rs.length cR4,.slice Ap pl cp,.bool v.nb,.slice v.ad v.l v.c,.bool s.odd] 69))=W at *;generalize w9.heap.size=y at *
 go_loopw [11,81] (fun ov iv wr=>∃ (k:Nat) (us:List FrV),iv = .int .i64 (k:Int)/\k<=rs.length/\us.length=k/\wr.ownsRow W.heap.size 73 4 ov k (frc us)/\NoU wr ov/\zBp wr us ((List.range k).map (xAc rs ss s))/\Below W.heap.size W wr) (fun _ iv _=>rs.length-(intOf iv).toNat)
 ·exact ⟨0,[],rfl,oLx,rfl,World.ownsRow_nil _ _ _ _,NoU.nil _ _ _,zBp.nil _,bRx⟩
 obtain ⟨k,us,rfl,hk9,hul,hown,hno,hfr,hbW⟩:=hrel;obtain ⟨Ao,co,rfl, -⟩:=zUj hown;have HUS:=oH hul;have HOW:=oH hown;have HNO:=oH hno;have HFR:=oH hfr;have HBV:=oH hbW;clear hul hown hno hfr
 by_cases hlt2:k<rs.length
 ·have hk4:k<rows4.length:=by have:=HL4.out;omega
  have hrr:=HR10.below hbW;have c0:=hrr.tab.cell (by rw [HL4.out]) hk4
  have i1:(0:Int)<=(k:Int):=by omega
  have i2:(k:Int)<(rs.length:Int):=by omega
  have hrW:=HR10.out;obtain ⟨nz,Sz,lz,cz,p5,p6,hz⟩:=hrW.tab.num_at hk4 (k:=rs.length) oMx;have c1:=HXA10.at_ (i:=0) rfl;have c2:=HXA10.at_ (i:=1) rfl;have c3:=HXB10.at_ (i:=0) rfl;have c4:=HXB10.at_ (i:=1) rfl;have c5:=HT10.at_ (i:=2) rfl;have c6:=HT10.at_ (i:=3) rfl;have HVv:=oH (show zBs wr (.agg #[.bool v.nb,.slice v.ad v.l v.c]) s.v from hrr.val);have HDv:=oH (show zBs wr (.agg #[.bool dv.nb,.slice dv.ad dv.l dv.c]) (zQz rs) from HDA10.below hbW);have HD8v:=oH (show zBs wr (.agg #[.bool dv8.nb,.slice dv8.ad dv8.l dv8.c]) (zQz (zJo ss)) from HDB10.below hbW);have hzl:=HEL.1 k rs.length hlt2;have hvl:=HEL.2.1;have hg1:grw 70 pl<=300000:=zOf lRx (by have:=HEL.2.2;omega);have hd1:=zRa HF.out;have hd2:=zRa (zNc (zJq ss) hsl12 hsl1 HV.out);have HKQ:=oH (show Rat.divInt (s.P k rs.length*zQz rs) (s.v*zQz (zJo ss))=xAc rs ss s k from rfl);have hdz:s.v*zQz (zJo ss)≠0:=Int.mul_ne_zero hv0 (by have:=zRc (zJo ss);omega)
  generalize rows4[k].g=rg at *;generalize rows4[k].cp=rc at *;obtain ⟨z,hzz⟩:=eXx (s.P k rs.length);rw [hzz] at hz hzl HKQ;have HZ:=oH (hz.below hbW);have hm1':=zBy z (zQz rs);have hm2':=zBy s.v (zQz (zJo ss));unfold LL at hzl hvl hd1 hd2 hm1' hm2';have KB:=oH (fun W' (hW:Below W.heap.size W W')=>(show W'.cell? ⟨rg,rs.length*2,none⟩=some (.bool nz)/\W'.cell? ⟨rg,rs.length*2+1,none⟩=some (.slice Sz lz cz)/\W'.cell? ⟨x,0,none⟩=some (.bool dv.nb)/\W'.cell? ⟨x,1,none⟩=some (.slice dv.ad dv.l dv.c)/\W'.cell? ⟨y,2,none⟩=some (.bool v.nb)/\W'.cell? ⟨y,3,none⟩=some (.slice v.ad v.l v.c)/\W'.cell? ⟨x+1,0,none⟩=some (.bool dv8.nb)/\W'.cell? ⟨x+1,1,none⟩=some (.slice dv8.ad dv8.l dv8.c) from ⟨kP hW p5,kP hW p6,kP hW c1,kP hW c2,kP hW c5,kP hW c6,kP hW c3,kP hW c4⟩));have KS0:=oH (KB.out _ HBV.drew)
  have i5:(0:Int)<=(rs.length:Int):=by omega
  have i6:(rs.length:Int)<((rs.length+1:Nat):Int):=by omega
  have i7:(rs.length:Int)<(rs.length:Int)+1:=by omega
  clear hrr hrW hbW hz hzz p5 p6 c1 c2 c3 c4 c5 c6;go_wp2_with fail;clear c0
  go_region_held3 (fun w'=>w'.cell? ⟨rg,rs.length*2,none⟩=some (.bool nz)/\w'.cell? ⟨rg,rs.length*2+1,none⟩=some (.slice Sz lz cz)/\w'.cell? ⟨x,0,none⟩=some (.bool dv.nb)/\w'.cell? ⟨x,1,none⟩=some (.slice dv.ad dv.l dv.c)/\w'.cell? ⟨y,2,none⟩=some (.bool v.nb)/\w'.cell? ⟨y,3,none⟩=some (.slice v.ad v.l v.c)/\w'.cell? ⟨x+1,0,none⟩=some (.bool dv8.nb)/\w'.cell? ⟨x+1,1,none⟩=some (.slice dv8.ad dv8.l dv8.c)) (first|with_reducible exact KS0.out|with_reducible exact KSa.out|with_reducible exact KSb.out|with_reducible exact KSn.out|with_reducible exact KSn2.out|with_reducible exact KSz.out|go_keep) (first|(go_at_call 37;(with_reducible refine (zCl _ _ z (zQz rs) _ (HZ.out.below bTy) (HDv.out.below bTy) oMx oMx).mono ?_);rintro e wa ⟨va,rfl,hv,hb⟩;have hw:Below wr.heap.size wr wa:=Below.trans bTy (hb.mono (by first|exact lRx|exact HWb.out.size));have HWa:=oH hw;have HVa:=oH hv;(first|(have HVb':=oH (HVb.out.below hb))|(have HVb':=oH (HVb.out.drew.below hb))|skip);have KSa:=oH (KB.out wa (HBV.out.trans (hw.mono HBV.out.size)));obtain ⟨xa,Xa,ya,za,rfl⟩:=hv.slice;clear hv hb hw)|(go_at_call 37;(with_reducible refine (zCl _ _ s.v (zQz (zJo ss)) _ (HVv.out.below bTy) (HD8v.out.below bTy) oMx oMx).mono ?_);rintro e wb ⟨vb,rfl,hv,hb⟩;have hw:Below wr.heap.size wr wb:=Below.trans bTy (hb.mono (by first|exact lRx|exact HWa.out.size));have HWb:=oH hw;have HVb:=oH hv;(first|(have HVa':=oH (HVa.out.below hb))|(have HVa':=oH (HVa.out.drew.below hb))|skip);have KSb:=oH (KB.out wb (HBV.out.trans (hw.mono HBV.out.size)));obtain ⟨xb,Xb,yb,zb,rfl⟩:=hv.slice;clear hv hb hw)|(go_at_call 36;(with_reducible refine (zCp _ _ (z*zQz rs) (s.v*zQz (zJo ss)) _ (by first|with_reducible exact HVa.out|with_reducible exact HVa'.out|with_reducible exact HVa.out.drew|with_reducible exact HVa'.out.drew) (by first|with_reducible exact HVb.out|with_reducible exact HVb'.out|with_reducible exact HVb.out.drew|with_reducible exact HVb'.out.drew) oMx oMx hdz).mono ?_);rintro e wn ⟨vn',rfl,hv,hb⟩;have hw:Below wr.heap.size wr wn:=Below.trans bTy (hb.mono (by first|exact lRx|exact HWa.out.size|exact HWb.out.size));have HWn:=oH hw;have HVn:=oH hv;obtain ⟨nax,nbx,Ax,Bx,lx,cx,mx,dx,rfl⟩:=hv.slice;have KSn:=oH (KB.out wn (HBV.out.trans (hw.mono HBV.out.size)));have HWm:=oH (hw.alloc hw.size (.cells #[.bool nax,.slice Ax lx cx,.bool nbx,.slice Bx mx dx] 73));have KSn2:=oH (KB.out _ (HBV.out.trans (HWm.out.mono HBV.out.size)));have HVm:=oH (hv.below (bRx.alloc lRx (.cells #[.bool nax,.slice Ax lx cx,.bool nbx,.slice Bx mx dx] 73)));have HOM:=oH (zUm HOW.out HWm.out);have HNM:=oH (HNO.out.below (fun k hk=>(HOW.out.lt k hk).2) HWm.out);have HFM:=oH (HFR.out.below HWm.out);have HSM:=oH (Nat.le_trans HBV.out.size HWm.out.size);clear hv hb hw)|(refine xAy _ (by rfl) _ _ _ (by rfl) W.heap.size 73 f0 _ 4 64 Tryz.underlying71 hf0 hfz0 hfz1 hfz2 rfl dCx (.slice Ao k co) k (frc us) (by go_simp) HOM.out ⟨wn.heap.size,0,none⟩ 1 1 (FrV.four ⟨nax,Ax,lx,cx,nbx,Bx,mx,dx⟩) (by go_simp) rfl (World.news_of_block (cs:=#[.bool nax,.slice Ax lx cx,.bool nbx,.slice Bx mx dx]) (t:=73) (fr:=(0,0)) (heap_alloc_new wn _)) zNk oMx (by unfold maxLen;omega) oMx HSM.out HNM.out fz_no zNi ?_;intro g2 cap2 w12 hown hgrow hno;have HOZ:=oH hown;have HNZ:=oH hno;have HFZ:=oH ((HFM.out.clean HNM.out hgrow).push (u:=⟨nax,Ax,lx,cx,nbx,Bx,mx,dx⟩) (q:=Rat.divInt (z*zQz rs) (s.v*zQz (zJo ss))) (HVm.out.clean HNM.out hgrow));have HBZ:=oH ((HBV.out.trans (HWm.out.mono HBV.out.size)).grown hgrow HSM.out (fun k hk=>(HOM.out.lt k hk).1));have KSz:=oH (KB.out w12 HBZ.out);clear hown hgrow hno))
  all_goals
   go_wp2_with fail;go_roundw
   ·exact ⟨k+1,us++[⟨nax,Ax,lx,cx,nbx,Bx,mx,dx⟩],by go_num,oMx,by simp [HUS.out],by rw [zNv];exact HOZ.out,HNZ.out,by rw [List.range_succ,List.map_append];show zBp _ _ (_++[xAc rs ss s k]);rw [<-HKQ.out];exact HFZ.out,HBZ.out⟩
   simp [intOf];omega
 obtain rfl:k=rs.length:=by omega
 have HTX:=zHc Ao us ((List.range rs.length).map (xAc rs ss s)) co wr (fun j hj=>by
  have hl9:0<rs.length:=by omega
  have h9:=HOW.out;obtain ⟨g,rfl⟩:=zUi h9 hl9
  have hj':j<rs.length:=by have:=HUS.out;omega
  exact ⟨g,0,rfl,(h9.lt g rfl).2,by rw [Nat.zero_add];exact (h9.cellAt (j*4) oMx).trans (zNo hj).1,by rw [Nat.zero_add];exact (h9.cellAt (j*4+1) oMx).trans (zNo hj).2.1,by rw [Nat.zero_add];exact (h9.cellAt (j*4+2) oMx).trans (zNo hj).2.2.1,by rw [Nat.zero_add];exact (h9.cellAt (j*4+3) oMx).trans (zNo hj).2.2.2⟩)
  HFR.out (by have:=HUS.out;omega) (fun q hq=>by
   obtain ⟨j,hj,rfl⟩:=List.mem_map.1 hq
   have hj':j<rs.length:=by simpa using hj
   have h1:=HEL.1 j rs.length hj';have h2:=HEL.2.1;have hg1:grw 70 pl<=300000:=zOf lRx (by have:=HEL.2.2;omega);have h3:=zBy (s.P j rs.length) (zQz rs);have h4:=zBy s.v (zQz (zJo ss));have h5:=zRa HF.out;have h6:=zRa (zNc (zJq ss) hsl12 hsl1 HV.out);unfold LL at h1 h2 h3 h4 h5 h6
   exact Sz.divInt (Int.mul_ne_zero hv0 (by have:=zRc (zJo ss);omega)) oMx oMx) (HE.below (HB10.trans (hbW.mono HB10.size)))
 rw [HUS.out] at HTX;replace HTX:=oH HTX;have HBF:=bTx2 HB10 hbW;have HKF:=oH (fun e w' (h:zGc w ((List.range rs.length).map (xAc rs ss s)) e w')=>(show zGo false s rs.length (xAc rs ss s) w e w' from .inr ⟨by rw [HPL.out];exact HPE.out,h⟩));have HLQ:=oH (show ((List.range rs.length).map (xAc rs ss s)).length=rs.length by simp);clear hbW;go_wp2_with fail;refine HTX.mono ?_;generalize (List.range rs.length).map (xAc rs ss s)=ql at *;rintro e w11 (⟨At,ct,hfit,rfl,hst,hb11⟩|⟨hno,rfl,hb11⟩)
 ·have HB11:=bTx2 HBF hb11;have HST:=oH hst;have HFIT:=oH hfit;clear hb11 hst hfit;go_wp2_with fail;rw [<-hQ.out];exact HKF.out _ _ (.inl ⟨At,ct,HFIT.out,rfl,HST.out,HB11.out⟩)
 have HB11:=bTx2 HBF hb11;have HNO2:=oH hno;clear hb11 hno;go_wp2_with fail;rw [<-hQ.out];exact HKF.out _ _ (.inr ⟨HNO2.out,rfl,HB11.out⟩)
end Go.Proofs.YtbjaplppalcmgaaGreatDoor
