import Derived.Test.YtfjjcoggoomlbaaGreatDoorZMH
set_option maxHeartbeats 16000000
set_option maxRecDepth 100000
set_option linter.unusedVariables false
set_option linter.unusedSimpArgs false
set_option linter.unusedSectionVars false
namespace Go.Proofs.YtfjjcoggoomlbaaGreatDoor
open Go.RowKit
theorem Tryz.infoRats:(Tryz.prog.info? 29).map (fun i=>(i.zero,i.size,i.bytes))=some (some (.slice none 0 0),1,24):=by kernel_rfl
section
variable {B:Nat} {w w6:World} {V V2:Value} {rs:List zGe} {r:zGe}
theorem zCu.zero (B:Nat) (w:World):zCu B w (.slice none 0 0) []:=⟨World.ownsRow_nil _ _ _ _,fun r hr=>(by cases hr)⟩
theorem zCu.below (h:zCu B w V rs) (hb:Below w.heap.size w w6):zCu B w6 V rs:=⟨zUu h.o hb,fun r hr=>zUu (h.i r hr) hb⟩
theorem zCu.push (h:zCu B w V rs) (hr:w.ownsRow B 39 1 (.slice r.ad r.ss.length r.cp) r.ss.length (sv r.ss)) (ho:w6.ownsRow B 29 1 V2 (rs.length+1) (zYc rs++[.slice r.ad r.ss.length r.cp])) (hg:w.grownBy w6 V.ownBlock):zCu B w6 V2 (rs++[r]):=by
 refine ⟨by rw [List.length_append,List.length_singleton,zYg];exact ho,fun a ha=>?_⟩
 rcases List.mem_append.1 ha with h1|h1
 ·exact (h.i a h1).kept hg (zUz (h.i a h1) h.o dCx)
 ·rw [List.mem_singleton.1 h1]
  exact hr.kept hg (zUz hr h.o dCx)
theorem zCu.read {A:Option Addr} {c:Nat} (h:zCu B w (.slice A rs.length c) rs):zCt w A rs :=
 ⟨zUs h.o,fun r hr=>by
  obtain ⟨A',c',e, -,hs, -⟩:=zVf (h.i r hr)
  injection e with e1
  rw [e1]
  exact hs⟩
end
theorem zHt {B:Nat} {w w1 w2:World} {V:Value} {o:Obj} (hB:Below B w w1) (hs:B≤w1.heap.size) (hg:(w1.alloc o).grownBy w2 V.ownBlock) (hV:∀ k,V.ownBlock=some k→B≤k):Below B w w2 :=
 (hB.alloc hs o).grown hg (by simp;omega) hV
def RetMat (w:World) (b m n:Nat) (e:Ending) (w':World):Prop:=∃ (v:Value) (qss:List (List Rat)) (rs:List zGe),e = .returned v∧qss.length=m∧(∀ l∈qss,l.length=n∧∀ q∈l,zGi q)∧rs.map (·.ss)=qss.map (·.map zYj)∧zCu w.heap.size w' v rs∧Src w' b∧w.grownBy w' (some b)
def RetCol (w:World) (ss:List ByteArray) (e:Ending) (w':World):Prop:=∃ (v:Value) (rs:List zGe),e = .returned v∧rs.map (·.ss)=ss.map (fun s=>[s])∧zCu w.heap.size w' v rs∧Below w.heap.size w w'
theorem zAi (A:Option Addr) (ss:List ByteArray) (c:Nat) (w:World) (h:zGo w A ss) (hl:ss.length≤1000):Calls Tryz.prog 88 #[.slice A ss.length c] w (RetCol w ss):=by
 obtain ⟨i0,hi,hz0,hz1,hz2⟩:=info_parts Tryz.infoRats
 have HS:=oH h
 clear h
 go_enter Tryz.func88,Tryz.ntmps88
 go_wp2_with fail
 go_loopw [3,8] (fun v iv wr=>∃ (rs:List zGe),iv = .int .i64 (rs.length:Int)∧rs.length≤ss.length∧rs.map (·.ss)=(ss.take rs.length).map (fun s=>[s])∧zCu w.heap.size wr v rs∧Below w.heap.size w wr) (fun _ iv _=>ss.length-(intOf iv).toNat)
 case atStart=>exact ⟨[],rfl,oLx,rfl,zCu.zero _ _,bRx⟩
 case round =>
  obtain ⟨rs,rfl,hrm,hmap,hown,hb⟩:=hrel
  obtain ⟨AV,cV,rfl, -⟩:=zUr hown.o
  have HMAP:=oH hmap
  have HOWN:=oH hown
  have HB:=oH hb
  have hsz:=hb.size
  clear hmap hown hb
  by_cases hlt:rs.length<ss.length
  ·obtain ⟨b,off,rfl,hbb,hc⟩:=HS.out (by intro e;subst e;simp at hlt)
   have hci:=(HB.cell (p:=⟨b,off+rs.length,none⟩) hbb).trans (hc rs.length hlt)
   have HTK:=oH (show ss.take (rs.length+1)=ss.take rs.length++[ss[rs.length]] from List.take_succ_eq_append_getElem hlt)
   generalize ss[rs.length]=s at *
   have hx1:(0:Int)≤(rs.length:Int):=by omega
   have hx2:(rs.length:Int)<(ss.length:Int):=by omega
   have hmx:rs.length≤1000:=by omega
   have hb1:Below wr.heap.size wr (wr.alloc (.cells #[.string s] 39)):=bA
   have hk1:=Blk.new wr 39 [.string s]
   have HN1:=oH (show (wr.alloc (.cells #[.string s] 39)).ownsRow w.heap.size 39 1 (.slice (some ⟨wr.heap.size,0,none⟩) 1 1) 1 (sv [s]) from ⟨rfl,.inr ⟨wr.heap.size,1,#[.string s],rfl,hsz,hk1,lRx,dCx,rfl,rfl⟩⟩)
   have HMO:=oH (HOWN.below hb1)
   have HB1:=oH (HB.alloc hsz (.cells #[.string s] 39))
   clear hc hk1 hb1
   go_wp2_with (at_builtin;refine wpList_append_own _ rfl _ _ 27 rfl w.heap.size 29 i0 (.slice none 0 0) 1 24 Tryz.underlying27 hi hz0 hz1 hz2 rfl dCx _ _ _ rfl (HMO.o.alloc _) ⟨wr.heap.size+1,0,none⟩ 1 1 [.slice (some ⟨wr.heap.size,0,none⟩) 1 1] rfl rfl (World.news_of_block (cs:=#[.slice (some ⟨wr.heap.size,0,none⟩) 1 1]) (t:=29) (fr:=(0,0)) (Blk.new' sMx _ [.slice (some ⟨wr.heap.size,0,none⟩) 1 1])) xAu (by unfold maxLen;omega) oMx (by simp;omega) ?_)
   intro v' w3 hown3 hgrow3 _
   have hlt2:∀ k,(Value.slice AV rs.length cV).ownBlock=some k→w.heap.size≤k:=fun k hk=>(HMO.o.lt k hk).1
   have HB3:=oH (zHt HB1.out HB1.size hgrow3 hlt2)
   have HM3:=oH ((HMO.below (bA)).push (r:=⟨some ⟨wr.heap.size,0,none⟩,1,[s]⟩) (zUu HN1.out (bA)) hown3 hgrow3)
   clear hown3 hgrow3 hlt2
   go_wp2_with fail
   go_roundw
   case rel=>exact ⟨rs++[⟨some ⟨wr.heap.size,0,none⟩,1,[s]⟩],by simp only [List.length_append,List.length_singleton];go_num,by simp;omega,by rw [List.length_append,List.length_singleton,HTK.out,List.map_append,List.map_append,HMAP.out];rfl,HM3.out,HB3.out⟩
   case measure=>simp [intOf];omega
  ·have HLM:=oH (show rs.length=ss.length by omega)
   go_wp2_with fail
   go_ret
   exact ⟨_,rs,rfl,by have:=HMAP.out;rw [HLM.out,List.take_length] at this;exact this,HOWN.out,HB.out⟩
theorem zGt.congr {B:Nat} {w:World} {V:Value} {rows:List zGd} {P P':Nat→Nat→Int} (h:zGt B w V rows P) (he:∀ i,(hi:i<rows.length)→∀ k,k<rows[i].us.length→P' i k=P i k):zGt B w V rows P' :=
 ⟨h.o,h.r,h.nd,fun i hi k hk=>by rw [he i hi k hk];exact h.num i hi k hk,h.nor⟩
structure zGk (B lo hi:Nat) (W0 wr:World) (R cR:Nat) (rw:List zGd) (P:Nat→Nat→Int):Prop where
 tab:zGt B wr (.slice (some ⟨R,0,none⟩) rw.length cR) rw P
 seg:∀ k,lo≤k→k<hi→wr.heap[k]? = W0.heap[k]?
 num:∀ v y,zCe W0 v y→zCe wr v y
 out:∀ r∈rw,r.g<lo∨hi≤r.g
 Rout:R<lo∨hi≤R
 bel:Below B W0 wr
 hi0:hi≤W0.heap.size
 B0:B≤W0.heap.size
section
variable {B lo hi R cR:Nat} {W0 wr w' w8:World} {rw:List zGd} {P:Nat→Nat→Int}
theorem zGk.below (h:zGk B lo hi W0 wr R cR rw P) (hb:Below wr.heap.size wr w'):zGk B lo hi W0 w' R cR rw P :=
 ⟨h.tab.below hb,fun k h1 h2=>(hb.block k (by have:=h.bel.size;have:=h.hi0;omega)).trans (h.seg k h1 h2),fun v y hv=>(h.num v y hv).below hb,h.out,h.Rout,h.bel.trans (hb.mono (Nat.le_trans h.B0 h.bel.size)),h.hi0,h.B0⟩
theorem zGk.alloc (h:zGk B lo hi W0 wr R cR rw P) (o:Obj):zGk B lo hi W0 (wr.alloc o) R cR rw P:=h.below (bRx.alloc lRx o)
theorem zGk.drew (h:zGk B lo hi W0 wr R cR rw P):zGk B lo hi W0 wr.drew R cR rw P:=h.below bRx.drew
theorem zGk.cell (h:zGk B lo hi W0 wr R cR rw P) {p:Addr} (h1:lo≤p.block) (h2:p.block<hi):wr.cell? p=W0.cell? p:=World.cell?_of_block (w:=W0) (h.seg p.block h1 h2)
theorem zGk.mid (h:zGk B lo hi W0 wr R cR rw P) {i:Nat} (hi2:i<rw.length) (hg:wr.grownBy w8 rw[i].self.ownBlock) {p:Addr} (h1:lo≤p.block) (h2:p.block<hi):w8.cell? p=W0.cell? p:=by
 refine World.cell?_of_block (w:=W0) ((hg.block p.block (by have:=h.bel.size;have:=h.hi0;omega) (fun e=>?_)).trans (h.seg p.block h1 h2))
 have e2:p.block=rw[i].g:=by injection e
 rcases h.out _ (List.getElem_mem hi2) with h3|h3<;>omega
theorem zGk.grow (h:zGk B lo hi W0 wr R cR rw P) {i:Nat} (hi2:i<rw.length) {r2:zGd} {u:zCy} {z:Int} (hu2:r2.us=rw[i].us++[u]) (hu:zCe wr u.val z) (hz:P i rw[i].us.length=z)
  (ho:w8.ownsRow B 83 2 r2.self r2.us.length (zTo r2.us)) (hg:wr.grownBy w8 rw[i].self.ownBlock) (hn:NoU w8 r2.self) (hgg:rw[i].g=r2.g∨r2.g=wr.heap.size) :
  zGk B lo hi W0 (w8.setCell ⟨R,i,none⟩ r2.self) R cR (rw.set i r2) P:=by
 obtain ⟨h1,h2,h3⟩:=h.tab.grow hi2 hu2 hu hz ho hg hn hgg
 have hsz:=h.bel.size
 have hh:=h.hi0
 refine ⟨by rw [List.length_set];exact h1,fun k hk1 hk2=>?_,fun v y hv=>h2 v y (h.num v y hv),fun r hr=>?_,h.Rout,h.bel.trans h3,h.hi0,h.B0⟩
 ·rw [Below.heap_setCell w8 ⟨R,i,none⟩ r2.self k (fun e=>by have e2:k=R:=e;rcases h.Rout with h4|h4<;>omega)]
  refine (hg.block k oMx (fun e=>?_)).trans (h.seg k hk1 hk2)
  have e2:k=rw[i].g:=by injection e
  rcases h.out _ (List.getElem_mem hi2) with h4|h4<;>omega
 ·rcases List.mem_or_eq_of_mem_set hr with h4|rfl
  ·exact h.out r h4
  ·rcases hgg with h5|h5
   ·rw [←h5];exact h.out _ (List.getElem_mem hi2)
   ·exact .inr oMx
theorem zGk.rowAt (h:zGk B lo hi W0 wr R cR rw P) {i:Nat} (hi2:i<rw.length):wr.cell? ⟨R,i,none⟩=some rw[i].self∧wr.frozen? ⟨R,i,none⟩=false:=by
 refine ⟨?_,h.tab.o.frozenAt i⟩
 rw [h.tab.o.cellAt i oMx,List.getElem?_map,List.getElem?_eq_getElem hi2]
 rfl
theorem zGk.rowMid (h:zGk B lo hi W0 wr R cR rw P) {i:Nat} (hi2:i<rw.length) (hg:wr.grownBy w8 rw[i].self.ownBlock):w8.cell? ⟨R,i,none⟩=some rw[i].self∧w8.frozen? ⟨R,i,none⟩=false:=by
 have hoo:w8.ownsRow B 141 1 (.slice (some ⟨R,0,none⟩) rw.length cR) rw.length (rw.map zGd.self):=h.tab.o.kept hg (zUz h.tab.o (h.tab.r _ (List.getElem_mem hi2)) dCx)
 refine ⟨?_,hoo.frozenAt i⟩
 rw [hoo.cellAt i oMx,List.getElem?_map,List.getElem?_eq_getElem hi2]
 rfl
end
theorem two_one8 {x:Bool} {A:Option Addr} {l c:Nat}:∀ u∈([.bool x,.slice A l c]:List Value),u.oneCell'=true:=by
 intro u hu
 simp at hu
 rcases hu with rfl|rfl<;>rfl
def zJb (ss:List ByteArray):List zGe:=ss.map fun s=>⟨none,0,[s]⟩
theorem zJc (ss:List ByteArray):(zJb ss).length=ss.length:=by simp [zJb]
theorem matL_col {rs:List zGe} {ss:List ByteArray} (h:rs.map (·.ss)=ss.map fun s=>[s]):zRk rs=zRk (zJb ss):=by
 have e:∀ l:List zGe,zRk l=(l.map (·.ss)).map (·.map xEr):=fun l=>by simp [zRk]
 rw [e,e,h]
 simp [zJb]
theorem zRr {rs:List zGe} {ss:List ByteArray} (h:rs.map (·.ss)=ss.map fun s=>[s]):rs.length=ss.length∧zRg rs=zRg (zJb ss)∧zRl rs=zRl (zJb ss)∧zNz rs 1=zNz (zJb ss) 1:=by
 have hl:rs.length=ss.length:=by have:=congrArg List.length h;simpa using this
 have hL:=matL_col h
 have hD:zRg rs=zRg (zJb ss):=by unfold zRg;rw [hL]
 have hQ:zRn rs=zRn (zJb ss):=by unfold zRn;rw [hL]
 have hP:zRl rs=zRl (zJb ss):=by funext i k;unfold zRl;rw [hD,hQ]
 refine ⟨hl,hD,hP,?_⟩
 unfold zNz
 rw [hD,hP,hl,zJc]
theorem zMw {rs:List zGe} {ss:List ByteArray} (h:rs.map (·.ss)=ss.map fun s=>[s]) (hl:ss.length≤12) (h1:1≤ss.length) (hv:∀ s∈ss,vR s=true∧s.size≤4000000000):zBn rs 1:=by
 have hlr:=(zRr h).1
 have hr:∀ r∈rs,∃ s∈ss,r.ss=[s]:=fun r hr=>by
  have:r.ss∈rs.map (·.ss):=List.mem_map.2 ⟨r,hr,rfl⟩
  rw [h] at this
  obtain ⟨s,hs,e⟩:=List.mem_map.1 this
  exact ⟨s,hs,e.symm⟩
 refine ⟨oMx,dCx,fun r h2=>?_,fun r h2 s h3=>?_,fun e=>by rw [e] at hlr;simp at hlr;omega⟩
 ·obtain ⟨s, -,e⟩:=hr r h2;rw [e];rfl
 ·obtain ⟨s',hs',e⟩:=hr r h2
  rw [e] at h3
  rw [List.mem_singleton.1 h3]
  exact hv _ hs'
noncomputable def xBa (rs:List zGe) (ss:List ByteArray) (i k:Nat):Int:=if k=rs.length then zRl (zJb ss) i 0 else zRl rs i k
noncomputable def xBb (rs:List zGe) (ss:List ByteArray) (s:zAz) (i:Nat):Rat:=Rat.divInt (s.P i rs.length*zRg rs) (s.v*zRg (zJb ss))
def SolPost (heavy:Bool) (s:zAz) (m:Nat) (q:Nat→Rat) (w:World) (e:Ending) (w':World):Prop :=
 match heavy with
 | true=>e = .returned (.tuple #[.slice none 0 0,.int .i64 3])∧Below w.heap.size w w'
 | false=>(s.ps.length<m∧e = .returned (.tuple #[.slice none 0 0,.int .i64 6])∧Below w.heap.size w w')∨(s.ps.length=m∧zFz w ((List.range m).map q) e w')
theorem zJd (ss:List ByteArray):(zJb ss).map (·.ss)=ss.map fun s=>[s]:=by simp [zJb]
theorem sol_LL {rs:List zGe} {ss:List ByteArray} (hf:zBn rs rs.length) (hm1:1≤rs.length) (hsl:ss.length=rs.length) (hv:∀ s∈ss,vR s=true∧s.size≤4000000000) (h1:¬600<zNz rs rs.length) (h2:¬600<zNz (zJb ss) 1):∀ i k,i<rs.length→LL (xBa rs ss i k)≤70:=fun i k hi=>by
 have hfc:zBn (zJb ss) 1:=zMw (zJd ss) (by have:=hf.m;omega) oMx hv
 unfold xBa
 split
 ·exact zPu hfc (by rw [zJc];omega) oMx i 0 (by rw [zJc];omega)
 ·exact zPu hf hm1 oMx i k hi
end Go.Proofs.YtfjjcoggoomlbaaGreatDoor
