import Derived.Test.YtafflnognagadaaGreatDoorZSC
set_option maxHeartbeats 16000000
set_option maxRecDepth 100000
namespace Go.Proofs.YtafflnognagadaaGreatDoor
open Go.RowKit
def zPo (p:UInt8) (i:Nat):ByteArray:=⟨#[p,UInt8.ofNat (97+i%26)]⟩
theorem zPq (p:UInt8) (i:Nat) (hp:letB p=true):xAk (zPo p i).data.toList=true:=by
 have:letB (UInt8.ofNat (97+i%26))=true:=by
  unfold letB
  have h:(UInt8.ofNat (97+i%26)).toNat=97+i%26:=by simp;omega
  rw [h];exact decide_eq_true oMx
 show ((letB p&&[UInt8.ofNat (97+i%26)].all zWw)&&decide _)=true
 rw [hp,List.all_cons,List.all_nil,Bool.and_true,Bool.true_and]
 have h2:zWw (UInt8.ofNat (97+i%26))=true:=by unfold zWw;rw [this];rfl
 rw [h2,Bool.true_and];exact decide_eq_true (by simp [zPo])
theorem zPp (p:UInt8) {i j:Nat} (hi:i<26) (hj:j<26) (h:zPo p i=zPo p j):i=j:=by
 unfold zPo at h;injection h with h;have h2:=congrArg (fun a:Array UInt8=>(a[1]!).toNat) h
 simp at h2
 omega
theorem zOn (p:UInt8) (i:Nat) (w:World) (hi:i<=1000):Calls Tryz.prog 30 #[.string ⟨#[p]⟩,.int .i64 (i:Int)] w fun e w'=>e = .returned (.string (zPo p i))/\Below w.heap.size w w':=by
 have hcv:=conv_one w (97+(i:Int)%26) (UInt8.ofNat (97+i%26)) (by simp;omega);have E:=oH (show (⟨#[p]⟩:ByteArray)++⟨#[UInt8.ofNat (97+i%26)]⟩=zPo p i from zHr [p] [UInt8.ofNat (97+i%26)]);generalize zPo p i=r at *;generalize UInt8.ofNat (97+i%26)=c at *
 go_enter Tryz.func30,Tryz.ntmps30
 go_wp2_with fail;go_ret
 exact ⟨by rw [<-E.out];rfl,bA⟩
theorem zRz {w w':World} {B B' e e' s s' n n':Nat} {v v':Value} {xs xs':List Value} (h:w.ownsRow B e s v n xs) (h':w.ownsRow B' e' s' v' n' xs') (hne:e≠e') (hg:w.grownBy w' v'.ownBlock):w'.ownsRow B e s v n xs:=by
 refine h.kept hg ?_
 rcases h.2 with ⟨hv,_⟩|⟨g,cap,cur,hv,hB,hk,_⟩
 ·exact .inl (by rw [hv];rfl)
 refine .inr ?_
 rcases h'.2 with ⟨hv',_⟩|⟨g',cap',cur',hv',hB',hk',_⟩
 ·rw [hv,hv'];simp [Value.ownBlock]
 rw [hv,hv']
 intro e2
 simp only [Value.ownBlock,Option.some.injEq] at e2;subst e2;rw [hk] at hk';injection hk' with hk';injection hk' with _ hk';exact hne hk'
structure SB (w wr:World) (b g:Nat) (va vr vf:Value) (at1:List (ByteArray × Int)) (rs:List zFg) (fs:List zBa) (lb:Int):Prop where
 box:Blk wr g 31 [va,vr,vf,.int .i64 lb]
 res:∃ c0 c1 c2 c3:Value,Blk wr w.heap.size 31 [c0,c1,c2,c3]
 a:wr.ownsRow (g+1) 66 2 va at1.length (av at1)
 r:wr.ownsRow (g+1) 68 2 vr rs.length (zTe rs)
 f:wr.ownsRow (g+1) 75 3 vf fs.length (fv fs)
 x:∀ r∈rs,wr.ownsRow (g+1) 3 1 (.slice r.ad r.xs.length r.cp) r.xs.length (vn r.xs)
 src:Src wr b
 gr:w.grownBy wr (some b)
 bw:b<w.heap.size
 gw:w.heap.size<g
theorem zRr {w w':World} {B e s n:Nat} {v:Value} {xs:List Value} (h:w.ownsRow B e s v n xs) (hb:Below w.heap.size w w'):w'.ownsRow B e s v n xs :=
 h.kept (row:=none) ⟨hb.os,hb.tape,hb.output,hb.size,fun k hk _=>hb.block k hk⟩ (by
  rcases hv:v.ownBlock with _|g
  ·exact .inl rfl
  exact .inr sMx)
theorem zSf {w w':World} {B e s n b:Nat} {v:Value} {xs:List Value} (h:w.ownsRow B e s v n xs) (hg:w.grownBy w' (some b)) (hb:b<B):w'.ownsRow B e s v n xs :=
 h.kept (row:=some b) hg (by
  rcases hv:v.ownBlock with _|g
  ·exact .inl rfl
  refine .inr ?_;have:=(h.lt g hv).1
  intro e
  injection e with e
  omega)
section
variable {w wr w':World} {b g:Nat} {va vr vf:Value} {at1:List (ByteArray × Int)} {rs:List zFg} {fs:List zBa} {lb:Int}
theorem SB.below (h:SB w wr b g va vr vf at1 rs fs lb) (hb:Below wr.heap.size wr w'):SB w w' b g va vr vf at1 rs fs lb where
 box:=h.box.below hb
 res:=by obtain ⟨c0,c1,c2,c3,h0⟩:=h.res;exact ⟨c0,c1,c2,c3,h0.below hb⟩
 a:=zRr h.a hb
 r:=zRr h.r hb
 f:=zRr h.f hb
 x:=fun r hr=>zRr (h.x r hr) hb
 src:=h.src.below hb
 gr:=zNa h.gr ⟨hb.os,hb.tape,hb.output,hb.size,fun k hk _=>hb.block k hk⟩
 bw:=h.bw
 gw:=h.gw
theorem SB.src_ (h:SB w wr b g va vr vf at1 rs fs lb) (hg:wr.grownBy w' (some b)) (hs:Src w' b):SB w w' b g va vr vf at1 rs fs lb where
 box:=h.box.grown hg (by have:=h.bw;have:=h.gw;intro e;injection e with e;omega)
 res:=by obtain ⟨c0,c1,c2,c3,h0⟩:=h.res;exact ⟨c0,c1,c2,c3,h0.grown hg (by have:=h.bw;intro e;injection e with e;omega)⟩
 a:=zSf h.a hg (by have:=h.bw;have:=h.gw;omega)
 r:=zSf h.r hg (by have:=h.bw;have:=h.gw;omega)
 f:=zSf h.f hg (by have:=h.bw;have:=h.gw;omega)
 x:=fun r hr=>zSf (h.x r hr) hg (by have:=h.bw;have:=h.gw;omega)
 src:=hs
 gr:=zNa h.gr hg
 bw:=h.bw
 gw:=h.gw
theorem zSe {w:World} {B e s n k i:Nat} {v u:Value} {xs:List Value} (h:w.ownsRow B e s v n xs) (hk:k<B):(w.setCell ⟨k,i,none⟩ u).ownsRow B e s v n xs :=
 h.kept (row:=some k) (zMx k i u) (by
  rcases hv:v.ownBlock with _|g
  ·exact .inl rfl
  refine .inr ?_;have:=(h.lt g hv).1
  intro e
  injection e with e
  omega)
theorem zMw {row:Option Nat} (h:w.grownBy wr (some b)) (hg:wr.grownBy w' row) (hr:∀ k,row=some k->w.heap.size<=k):w.grownBy w' (some b) :=
 ⟨hg.os.trans h.os,hg.tape.trans h.tape,hg.output.trans h.output,Nat.le_trans h.size hg.size,fun i hi hne=>by
  have:=h.size;rw [hg.block i oMx (fun e=>by have:=hr i e.symm;omega)]
  exact h.block i hi hne⟩
theorem SB.row {row:Option Nat} (h:SB w wr b g va vr vf at1 rs fs lb) (hg:wr.grownBy w' row) (hr:∀ k,row=some k->g<k) {va' vr' vf':Value} {at1':List (ByteArray × Int)} {rs':List zFg} {fs':List zBa} {lb':Int}
  (a:w'.ownsRow (g+1) 66 2 va' at1'.length (av at1')) (r:w'.ownsRow (g+1) 68 2 vr' rs'.length (zTe rs')) (f:w'.ownsRow (g+1) 75 3 vf' fs'.length (fv fs'))
  (x:∀ r∈rs',w'.ownsRow (g+1) 3 1 (.slice r.ad r.xs.length r.cp) r.xs.length (vn r.xs)) {w2:World} (hw2:w2=w'\/∃ i u,i<4/\w2=w'.setCell ⟨g,i,none⟩ u) (hbox:Blk w2 g 31 [va',vr',vf',.int .i64 lb']):SB w w2 b g va' vr' vf' at1' rs' fs' lb':=by
 have hbw:=h.bw;have hgw:=h.gw;have hs:=h.gr.size;have hgr:=zMw h.gr hg (fun k hk=>by have:=hr k hk;omega);have hsrc:Src w' b:=h.src.above hg.size (fun i hi=>hg.block i oMx (fun e=>by have:=hr i e.symm;omega));obtain ⟨c0,c1,c2,c3,h0⟩:=h.res;have hres:Blk w' w.heap.size 31 [c0,c1,c2,c3]:=h0.grown hg (fun e=>by have:=hr _ e.symm;omega)
 rcases hw2 with rfl|⟨i,u,_,rfl⟩
 ·exact ⟨hbox,⟨c0,c1,c2,c3,hres⟩,a,r,f,x,hsrc,hgr,hbw,hgw⟩
 have hg2:=zMx (w:=w') g i u;refine ⟨hbox,⟨c0,c1,c2,c3,hres.far (by show w.heap.size≠g;omega) u⟩,zSe a oMx,zSe r oMx,zSe f oMx,fun y hy=>zSe (x y hy) oMx,?_,zMw hgr hg2 (fun k hk=>by injection hk with hk;omega),hbw,hgw⟩;have hs2:=hgr.size;exact hsrc.above hg2.size (fun k hk=>hg2.block k oMx (fun e=>by injection e with e;omega))
theorem zRx {B e s n:Nat} {v:Value} {xs:List Value} (h:wr.ownsRow (B+1) e s v n xs):∀ k,v.ownBlock=some k->B<k:=fun k hk=>(h.lt k hk).1
theorem SB.ints (h:SB w wr b g va vr vf at1 rs fs lb) {bl n:Nat} {lv:Value} {xs:List Value} (hl:wr.ownsRow bl 3 1 lv n xs) (hbl:g<bl) (hx:∀ r∈rs,∀ k,(Value.slice r.ad r.xs.length r.cp).ownBlock=some k->k<bl) (hg:wr.grownBy w' lv.ownBlock):SB w w' b g va vr vf at1 rs fs lb :=
 h.row hg (fun k hk=>by have:=(hl.lt k hk).1;omega) (zRz h.a hl dCx hg) (zRz h.r hl dCx hg) (zRz h.f hl dCx hg)
  (fun r hr=>(h.x r hr).kept hg (by
   rcases hv:(Value.slice r.ad r.xs.length r.cp).ownBlock with _|k
   ·exact .inl rfl
   refine .inr fun e=>?_
   have h1:=hx r hr k hv;have h2:=(hl.lt k e.symm).1
   omega)) (.inl rfl) (h.box.grown hg (fun e=>by have:=(hl.lt g e.symm).1;omega))
theorem av_snoc (at1:List (ByteArray × Int)) (s:ByteArray) (z:Int):av (at1++[(s,z)])=av at1++[.string s,.int .i64 z]:=by simp [av]
theorem zTh (rs:List zFg) (r:zFg):zTe (rs++[r])=zTe rs++[.string r.nm,.slice r.ad r.xs.length r.cp]:=by simp [zTe]
theorem fv_snoc (fs:List zBa) (f:zBa):fv (fs++[f])=fv fs++[.int .i64 (f.a:Int),.int .i64 f.k,.int .i64 f.m]:=by simp [fv]
theorem SB.pushA (h:SB w wr b g va vr vf at1 rs fs lb) {va':Value} {s:ByteArray} {z:Int} (hg:wr.grownBy w' va.ownBlock) (hown:w'.ownsRow (g+1) 66 2 va' (at1.length+1) (av at1++[.string s,.int .i64 z])) :
  SB w (w'.setCell ⟨g,0,none⟩ va') b g va' vr vf (at1++[(s,z)]) rs fs lb :=
 h.row hg (zRx h.a) (by rw [av_snoc,List.length_append];exact hown) (zRz h.r h.a dCx hg) (zRz h.f h.a dCx hg) (fun r hr=>zRz (h.x r hr) h.a dCx hg) (.inr ⟨0,va',oMx,rfl⟩)
  ((h.box.grown hg (fun e=>by have:=zRx h.a g e.symm;omega)).set 0 va')
theorem SB.pushR (h:SB w wr b g va vr vf at1 rs fs lb) {vr':Value} {r:zFg} (hg:wr.grownBy w' vr.ownBlock) (hx:wr.ownsRow (g+1) 3 1 (.slice r.ad r.xs.length r.cp) r.xs.length (vn r.xs)) (hown:w'.ownsRow (g+1) 68 2 vr' (rs.length+1) (zTe rs++[.string r.nm,.slice r.ad r.xs.length r.cp])) :
  SB w (w'.setCell ⟨g,1,none⟩ vr') b g va vr' vf at1 (rs++[r]) fs lb :=
 h.row hg (zRx h.r) (zRz h.a h.r dCx hg) (by rw [zTh,List.length_append];exact hown) (zRz h.f h.r dCx hg) (fun y hy=>by
  rcases List.mem_append.1 hy with h1|h1
  ·exact zRz (h.x y h1) h.r dCx hg
  ·rw [List.mem_singleton] at h1;subst h1
   exact zRz hx h.r dCx hg) (.inr ⟨1,vr',oMx,rfl⟩)
  ((h.box.grown hg (fun e=>by have:=zRx h.r g e.symm;omega)).set 1 vr')
theorem SB.pushF (h:SB w wr b g va vr vf at1 rs fs lb) {vf':Value} {f:zBa} (hg:wr.grownBy w' vf.ownBlock) (hown:w'.ownsRow (g+1) 75 3 vf' (fs.length+1) (fv fs++[.int .i64 (f.a:Int),.int .i64 f.k,.int .i64 f.m])) :
  SB w (w'.setCell ⟨g,2,none⟩ vf') b g va vr vf' at1 rs (fs++[f]) lb :=
 h.row hg (zRx h.f) (zRz h.a h.f dCx hg) (zRz h.r h.f dCx hg) (by rw [fv_snoc,List.length_append];exact hown) (fun y hy=>zRz (h.x y hy) h.f dCx hg) (.inr ⟨2,vf',oMx,rfl⟩)
  ((h.box.grown hg (fun e=>by have:=zRx h.f g e.symm;omega)).set 2 vf')
theorem SB.label (h:SB w wr b g va vr vf at1 rs fs lb) (l:Int):SB w (wr.setCell ⟨g,3,none⟩ (.int .i64 l)) b g va vr vf at1 rs fs l :=
 h.row (World.grownBy.refl wr none) (fun k hk=>by cases hk) h.a h.r h.f h.x (.inr ⟨3,_,oMx,rfl⟩) (h.box.set 3 _)
end
theorem Tryz.infoAttr:(Tryz.prog.info? 66).map (fun i=>(i.zero,i.size,i.bytes))=some (some (.agg #[.string ⟨#[]⟩,.int .i64 0]),2,24):=by kernel_rfl
theorem Tryz.infoRel:(Tryz.prog.info? 68).map (fun i=>(i.zero,i.size,i.bytes))=some (some (.agg #[.string ⟨#[]⟩,.slice none 0 0]),2,40):=by kernel_rfl
theorem Tryz.infoFeat:(Tryz.prog.info? 75).map (fun i=>(i.zero,i.size,i.bytes))=some (some (.agg #[.int .i64 0,.int .i64 0,.int .i64 0]),3,24):=by kernel_rfl
def zBe (at1:List (ByteArray × Int)):Prop:=∀ i,(hi:i<at1.length)->at1[i].1=zPo 97 i/\1<=at1[i].2/\at1[i].2<=3
theorem zBe.nil:zBe []:=fun i hi=>by simp at hi
theorem zBe.push {at1:List (ByteArray × Int)} (h:zBe at1) {z:Int} (h1:1<=z) (h2:z<=3):zBe (at1++[(zPo 97 at1.length,z)]):=fun i hi=>by
 rw [List.getElem_append]
 split
 ·exact h i _
 have:i=at1.length:=by simp at hi;omega
 subst this
 simp [h1,h2]
def zAc (l:List Nat) (n:Nat):Prop:=Asc l/\∀ x∈l,x<n
theorem zAc.nil (n:Nat):zAc [] n:=⟨fun i hi=>by simp at hi,fun x hx=>by cases hx⟩
theorem zAc.more {l:List Nat} {n:Nat} (h:zAc l n):zAc l (n+1):=⟨h.1,fun x hx=>Nat.lt_succ_of_lt (h.2 x hx)⟩
theorem zAc.push {l:List Nat} {n:Nat} (h:zAc l n):zAc (l++[n]) (n+1):=by
 refine ⟨fun i hi=>?_,fun x hx=>?_⟩
 ·rw [List.length_append,List.length_singleton] at hi;unfold nth
  rcases Nat.lt_or_ge (i+1) l.length with h1|h1
  ·have:=h.1 i h1;unfold nth at this
   simpa [List.getD_eq_getElem?_getD,List.getElem?_append_left,h1,Nat.lt_of_succ_lt h1] using this
  have e:i+1=l.length:=by omega
  have h2:=h.2 (l[i]'oMx) (List.getElem_mem _)
  simp [List.getD_eq_getElem?_getD,e,List.getElem?_append_left (show i<l.length by omega),List.getElem?_eq_getElem (show i<l.length by omega)]
  exact h2
 rcases List.mem_append.1 hx with h1|h1
 ·have:=h.2 x h1;omega
 rw [List.mem_singleton] at h1;omega
theorem zAc.len:∀ {l:List Nat} {n:Nat},zAc l n->l.length<=n:=by
 intro l n h
 have hk:∀ i,i<l.length->i<=nth l i:=by
  intro i
  induction i with
  | zero=>intro _;omega
  | succ i ih=>intro hi;have:=ih oMx;have:=h.1 i hi;omega
 rcases Nat.eq_zero_or_pos l.length with h0|h0
 ·omega
 have h1:=hk (l.length-1) oMx;have h2:nth l (l.length-1)<n:=h.2 _ (by unfold nth;simp [List.getD_eq_getElem?_getD,show l.length-1<l.length by omega]);omega
structure zBf (n:Nat) (rs:List zFg):Prop where
 name:∀ i,(hi:i<rs.length)->rs[i].nm=zPo 114 i
 list:∀ r∈rs,r.xs≠[]/\zAc r.xs n/\r.xs.length<=r.cp
 used:∀ i,i<n->zXy rs i=true
theorem zBf.nil:zBf 0 []:=⟨(fun i hi=>by simp at hi),(fun r hr=>by cases hr),(fun i hi=>by omega)⟩
theorem zAc.mono {l:List Nat} {n m:Nat} (h:zAc l n) (hm:n<=m):zAc l m:=⟨h.1,fun x hx=>Nat.lt_of_lt_of_le (h.2 x hx) hm⟩
theorem zBf.push {n m:Nat} {rs:List zFg} (h:zBf n rs) {ad:oAx} {cp:Nat} {l:List Nat} (hl:l≠[]) (ha:zAc l m) (hc:l.length<=cp) (hnm:n<=m) (hu:∀ i,n<=i->i<m->i∈l):zBf m (rs++[⟨zPo 114 rs.length,ad,cp,l⟩]) where
 name:=fun i hi=>by
  rw [List.getElem_append]
  split
  ·exact h.name i _
  have:i=rs.length:=by simp at hi;omega
  subst this
  simp
 list:=fun r hr=>by
  rcases List.mem_append.1 hr with h1|h1
  ·obtain ⟨a,b,c⟩:=h.list r h1;exact ⟨a,b.mono hnm,c⟩
  rw [List.mem_singleton] at h1;subst h1;exact ⟨hl,ha,hc⟩
 used:=fun i hi=>by
  rw [zXz]
  rcases Nat.lt_or_ge i n with h1|h1
  ·rw [h.used i h1];rfl
  rw [List.contains_iff_mem.2 (hu i h1 hi),Bool.or_true]
theorem zRv {w:World} {B e s n:Nat} {v:Value} {xs:List Value} (h:w.ownsRow B e s v n xs):∃ A c,v = .slice A n c/\n<=c:=by
 rcases h.2 with ⟨hv,h0⟩|⟨g,cap,cur,hv,hB,hg,hle,_⟩
 ·subst h0;exact ⟨none,0,hv,lRx⟩
 exact ⟨_,cap,hv,hle⟩
structure St (w wo wr:World) (b g:Nat) (va vr vf:Value) (at1:List (ByteArray × Int)) (rs:List zFg) (fs:List zBa) (lb:Int) (lv:Value) (l:List Nat):Prop where
 sb:SB w wr b g va vr vf at1 rs fs lb
 own:wr.ownsRow wo.heap.size 3 1 lv l.length (vn l)
 sz:wo.heap.size<=wr.heap.size
 gw:g<wo.heap.size
section
variable {w wo wr w':World} {b g:Nat} {va vr vf:Value} {at1:List (ByteArray × Int)} {rs:List zFg} {fs:List zBa} {lb:Int} {lv:Value} {l:List Nat}
theorem St.below (h:St w wo wr b g va vr vf at1 rs fs lb lv l) (hb:Below wr.heap.size wr w'):St w wo w' b g va vr vf at1 rs fs lb lv l:=⟨h.sb.below hb,zRr h.own hb,Nat.le_trans h.sz hb.size,h.gw⟩
theorem St.alloc (h:St w wo wr b g va vr vf at1 rs fs lb lv l) (o:Obj):St w wo (wr.alloc o) b g va vr vf at1 rs fs lb lv l:=h.below (bRx.alloc lRx o)
theorem St.drew (h:St w wo wr b g va vr vf at1 rs fs lb lv l):St w wo wr.drew b g va vr vf at1 rs fs lb lv l:=h.below bRx.drew
theorem St.src_ (h:St w wo wr b g va vr vf at1 rs fs lb lv l) (hg:wr.grownBy w' (some b)) (hs:Src w' b):St w wo w' b g va vr vf at1 rs fs lb lv l:=⟨h.sb.src_ hg hs,zSf h.own hg (by have:=h.sb.bw;have:=h.sb.gw;have:=h.gw;omega),Nat.le_trans h.sz hg.size,h.gw⟩
theorem St.pushA (h:St w wo wr b g va vr vf at1 rs fs lb lv l) {va':Value} {s:ByteArray} {z:Int} (hg:wr.grownBy w' va.ownBlock) (hown:w'.ownsRow (g+1) 66 2 va' (at1.length+1) (av at1++[.string s,.int .i64 z])):St w wo (w'.setCell ⟨g,0,none⟩ va') b g va' vr vf (at1++[(s,z)]) rs fs lb lv l :=
 ⟨h.sb.pushA hg hown,zSe (zRz h.own h.sb.a dCx hg) h.gw,by have:=h.sz;have:=hg.size;simp [World.setCell];omega,h.gw⟩
theorem St.pushR {L:oAx} {d:Nat} (h:St w wo wr b g va vr vf at1 rs fs lb (.slice L l.length d) l) {vr':Value} {nm:ByteArray} (hg:wr.grownBy w' vr.ownBlock) (hown:w'.ownsRow (g+1) 68 2 vr' (rs.length+1) (zTe rs++[.string nm,.slice L l.length d])):SB w (w'.setCell ⟨g,1,none⟩ vr') b g va vr' vf at1 (rs++[⟨nm,L,d,l⟩]) fs lb :=
 h.sb.pushR (r:=⟨nm,L,d,l⟩) hg (own_low h.own (by have:=h.gw;omega)) hown
end
theorem SB.box_r {w wr w':World} {b g:Nat} {va vr vf:Value} {at1:List (ByteArray × Int)} {rs:List zFg} {fs:List zBa} {lb:Int} (h:SB w wr b g va vr vf at1 rs fs lb) (hg:wr.grownBy w' vr.ownBlock):Blk w' g 31 [va,vr,vf,.int .i64 lb]:=h.box.grown hg (fun e=>by have:=zRx h.r g e.symm;omega)
theorem zXv {s:ByteArray} {L:oAx} {n d:Nat}:∀ u∈([Value.string s,.slice L n d]:List Value),u.oneCell'=true:=by
 intro u hu
 rw [List.mem_cons,List.mem_singleton] at hu
 rcases hu with rfl|rfl<;>rfl
theorem SB.box_a {w wr w':World} {b g:Nat} {va vr vf:Value} {at1:List (ByteArray × Int)} {rs:List zFg} {fs:List zBa} {lb:Int} (h:SB w wr b g va vr vf at1 rs fs lb) (hg:wr.grownBy w' va.ownBlock):Blk w' g 31 [va,vr,vf,.int .i64 lb]:=h.box.grown hg (fun e=>by have:=zRx h.a g e.symm;omega)
theorem blk4 (w:World):Blk (w.alloc (.cells #[.int .i64 1,.int .i64 2,.int .i64 2,.int .i64 3] 3)) w.heap.size 3 [.int .i64 1,.int .i64 2,.int .i64 2,.int .i64 3]:=Blk.new w _ [.int .i64 1,.int .i64 2,.int .i64 2,.int .i64 3]
theorem blk4d (w:World):Blk (w.alloc (.cells #[.int .i64 1,.int .i64 2,.int .i64 2,.int .i64 3] 3)).drew w.heap.size 3 [.int .i64 1,.int .i64 2,.int .i64 2,.int .i64 3]:=blk4 w
theorem blk4e (w:World):Blk (w.drew.alloc (.cells #[.int .i64 1,.int .i64 2,.int .i64 2,.int .i64 3] 3)) w.heap.size 3 [.int .i64 1,.int .i64 2,.int .i64 2,.int .i64 3]:=blk4 w.drew
theorem zXu {s:ByteArray} {z:Int}:∀ u∈([Value.string s,.int .i64 z]:List Value),u.oneCell'=true:=by
 intro u hu
 rw [List.mem_cons,List.mem_singleton] at hu
 rcases hu with rfl|rfl<;>rfl
theorem Pick4 (b g:Nat) (w:World) (hs:Src w b) (h4:Blk w g 3 [.int .i64 1,.int .i64 2,.int .i64 2,.int .i64 3]) (hgb:b<g) :
  Calls Tryz.prog 31 #[.pointer (some ⟨b,0,none⟩),.slice (some ⟨g,0,none⟩) 4 4] w fun e w'=>∃ z:Int,(1<=z/\z<=3)/\e = .returned (.int .i64 z)/\Src w' b/\w.grownBy w' (some b):=by
 refine (zDn b g 4 (fun i=>[1,2,2,3].getD i 0) w hs (fun i hi=>?_) oMx h4.lt dCx dCx).mono ?_
 ·match i,hi with
  | 0,_=>exact h4.at_ (i:=0) rfl
  | 1,_=>exact h4.at_ (i:=1) rfl
  | 2,_=>exact h4.at_ (i:=2) rfl
  | 3,_=>exact h4.at_ (i:=3) rfl
 rintro e w' ⟨i,hi,rfl,h1,h2⟩;refine ⟨_,?_,rfl,h1,h2⟩
 match i,hi with
 | 0,_=>decide
 | 1,_=>decide
 | 2,_=>decide
 | 3,_=>decide
structure zAz (at1:List (ByteArray × Int)) (fs:List zBa) (lb:Int) (n:Nat):Prop where
 le:n<=at1.length
 lt:∀ f∈fs,f.a<n
 kind:∀ f∈fs,∀ h:f.a<at1.length,(f.k=1/\at1[f.a].2=2/\(f.m=0\/f.m=1))\/(f.k=2/\at1[f.a].2=3/\f.m=0)
 other:∀ f∈fs,(f.a:Int)≠lb
 dist:(fs.map (·.a)).Nodup
 lb1 : -1<=lb
 lb2:lb<n
 lb3:∀ i,(hi:i<at1.length)->(i:Int)=lb->at1[i].2=2
 len:fs.length<=n
theorem zAz.start (at1:List (ByteArray × Int)):zAz at1 [] (-1) 0:=⟨oLx,(fun f hf=>by cases hf),(fun f hf=>by cases hf),(fun f hf=>by cases hf),List.nodup_nil,oMx,oMx,(fun i hi e=>by omega),lRx⟩
section
variable {at1:List (ByteArray × Int)} {fs:List zBa} {lb:Int} {n:Nat}
theorem zAz.next (h:zAz at1 fs lb n) (hn:n<at1.length):zAz at1 fs lb (n+1):=⟨hn,fun f hf=>Nat.lt_succ_of_lt (h.lt f hf),h.kind,h.other,h.dist,h.lb1,by have:=h.lb2;omega,h.lb3,by have:=h.len;omega⟩
theorem zAz.label (h:zAz at1 fs lb n) (hn:n<at1.length) (hk:at1[n].2=2):zAz at1 fs n (n+1):=⟨hn,fun f hf=>Nat.lt_succ_of_lt (h.lt f hf),h.kind,fun f hf=>by have:=h.lt f hf;omega,h.dist,oMx,oMx,fun i hi e=>by
 obtain rfl:i=n:=by omega
 exact hk,by have:=h.len;omega⟩
theorem zAz.push (h:zAz at1 fs lb n) (hn:n<at1.length) {k m:Int} (hk:(k=1/\at1[n].2=2/\(m=0\/m=1))\/(k=2/\at1[n].2=3/\m=0)):zAz at1 (fs++[⟨n,k,m⟩]) lb (n+1) where
 le:=hn
 lt:=fun f hf=>by
  rcases List.mem_append.1 hf with h1|h1
  ·exact Nat.lt_succ_of_lt (h.lt f h1)
  rw [List.mem_singleton] at h1;subst h1;exact Nat.lt_succ_self _
 kind:=fun f hf hh=>by
  rcases List.mem_append.1 hf with h1|h1
  ·exact h.kind f h1 hh
  rw [List.mem_singleton] at h1;subst h1;exact hk
 other:=fun f hf=>by
  rcases List.mem_append.1 hf with h1|h1
  ·exact h.other f h1
  rw [List.mem_singleton] at h1;subst h1;have:=h.lb2;simp only;omega
 dist:=by
  rw [List.map_append,List.nodup_append];refine ⟨h.dist,by simp,fun a ha b hb e=>?_⟩;obtain ⟨f,hf,e1⟩:=List.mem_map.1 ha
  simp at hb
  have:=h.lt f hf;omega
 lb1:=h.lb1
 lb2:=by have:=h.lb2;omega
 lb3:=h.lb3
 len:=by have:=h.len;simp;omega
end
theorem zBe.names {at1:List (ByteArray × Int)} (h:zBe at1) (hl:at1.length<=8):(at1.map (·.1)).Nodup:=by
 rw [List.Nodup,List.pairwise_iff_getElem]
 intro i j hi hj hij e
 rw [List.length_map] at hi hj;rw [List.getElem_map,List.getElem_map,(h i hi).1,(h j hj).1] at e;have:=zPp 97 oMx oMx e;omega
theorem zBf.names {n:Nat} {rs:List zFg} (h:zBf n rs) (hl:rs.length<=8):(rs.map (·.nm)).Nodup:=by
 rw [List.Nodup,List.pairwise_iff_getElem]
 intro i j hi hj hij e
 rw [List.length_map] at hi hj;rw [List.getElem_map,List.getElem_map,h.name i hi,h.name j hj] at e;have:=zPp 114 oMx oMx e;omega
theorem good_ok {S:zFv} (ha:zBe S.at1) (hr:zBf S.at1.length S.rs) (hf:zAz S.at1 S.fs S.lb S.at1.length) (a1:1<=S.at1.length) (a2:S.at1.length<=8) (r1:1<=S.rs.length) (r2:S.rs.length<=3) (cf:S.fs.length<=S.cf):zFu S where
 fine:={
  a1:=a1
  a2:=by omega
  r1:=r1
  r2:=by omega
  f2:=by have:=hf.len;omega
  cf:=cf
  word:=fun a hm=>by
   obtain ⟨i,hi,rfl⟩:=List.getElem_of_mem hm;obtain ⟨h1,h2,h3⟩:=ha i hi;rw [h1];exact ⟨zPq 97 i dCx,h2,h3⟩
  rel:=fun r hm=>by
   obtain ⟨i,hi,e⟩:=List.getElem_of_mem hm;obtain ⟨h1,h2,h3⟩:=hr.list r hm;have hn:=hr.name i hi;rw [e] at hn;exact ⟨by rw [hn];exact zPq 114 i dCx,h1,h2.2,h2.1,h3,by have:=h2.len;omega⟩
  reld:=hr.names oMx
  feat:=fun f hm=>⟨hf.lt f hm,hf.kind f hm _,hf.other f hm⟩
  featd:=hf.dist
  lb1:=hf.lb1
  lb2:=hf.lb2
  lb3:=hf.lb3 }
 names:=ha.names a2
 used:=hr.used
theorem SB.a_some {w wr:World} {b g:Nat} {A:oAx} {c:Nat} {vr vf:Value} {at1:List (ByteArray × Int)} {rs:List zFg} {fs:List zBa} {lb:Int} (h:SB w wr b g (.slice A at1.length c) vr vf at1 rs fs lb) (hn:0<at1.length):∃ k:Nat,A=some ⟨k,0,none⟩:=by
 rcases h.a.2 with ⟨_,h0⟩|⟨k,cap,cur,hv,_⟩
 ·omega
 injection hv with hv;exact ⟨k,hv⟩
theorem SB.attr {w wr:World} {b g k c:Nat} {vr vf:Value} {at1:List (ByteArray × Int)} {rs:List zFg} {fs:List zBa} {lb:Int} (h:SB w wr b g (.slice (some ⟨k,0,none⟩) at1.length c) vr vf at1 rs fs lb) {i:Nat} (hi:i<at1.length):wr.cell? ⟨k,i*2,none⟩=some (.string at1[i].1)/\wr.cell? ⟨k,i*2+1,none⟩=some (.int .i64 at1[i].2)/\k<wr.heap.size:=by
 obtain ⟨h1,h2⟩:=zHp hi;refine ⟨?_,?_,(h.a.lt k rfl).2⟩
 ·rw [h.a.cellAt (i*2) oMx,h1]
 rw [h.a.cellAt (i*2+1) oMx,h2]
def IsK (bb:Bool) (kd k:Int):Prop:=bb=true->kd=k
theorem IsK.no (kd k:Int):IsK false kd k:=fun h=>by cases h
theorem IsK.yes {bb:Bool} (k:Int):IsK bb k k:=fun _=>rfl
structure XS (w wr:World) (b g h:Nat) (va vr vf:Value) (at1:List (ByteArray × Int)) (rs:List zFg) (fs:List zBa) (lb:Int) (nm:ByteArray) (kd:Int):Prop where
 sb:SB w wr b g va vr vf at1 rs fs lb
 box:Blk wr h 66 [.string nm,.int .i64 kd]
 hb:b<h
section
variable {w wr w':World} {b g h:Nat} {va vr vf:Value} {at1:List (ByteArray × Int)} {rs:List zFg} {fs:List zBa} {lb:Int} {nm:ByteArray} {kd:Int}
theorem XS.below (x:XS w wr b g h va vr vf at1 rs fs lb nm kd) (hb:Below wr.heap.size wr w'):XS w w' b g h va vr vf at1 rs fs lb nm kd:=⟨x.sb.below hb,x.box.below hb,x.hb⟩
theorem XS.alloc (x:XS w wr b g h va vr vf at1 rs fs lb nm kd) (o:Obj):XS w (wr.alloc o) b g h va vr vf at1 rs fs lb nm kd:=x.below (bRx.alloc lRx o)
theorem XS.drew (x:XS w wr b g h va vr vf at1 rs fs lb nm kd):XS w wr.drew b g h va vr vf at1 rs fs lb nm kd:=x.below bRx.drew
theorem XS.src_ (x:XS w wr b g h va vr vf at1 rs fs lb nm kd) (hg:wr.grownBy w' (some b)) (hs:Src w' b):XS w w' b g h va vr vf at1 rs fs lb nm kd:=⟨x.sb.src_ hg hs,x.box.grown hg (fun e=>by have:=x.hb;injection e with e;omega),x.hb⟩
theorem XS.new (s:SB w wr b g va vr vf at1 rs fs lb) (nm:ByteArray) (kd:Int):XS w (wr.alloc (.cells #[.string nm,.int .i64 kd] 66)) b g wr.heap.size va vr vf at1 rs fs lb nm kd:=⟨s.below (bA),Blk.new wr _ [.string nm,.int .i64 kd],s.src.lt⟩
theorem SB.box_f (s:SB w wr b g va vr vf at1 rs fs lb) (hg:wr.grownBy w' vf.ownBlock):Blk w' g 31 [va,vr,vf,.int .i64 lb]:=s.box.grown hg (fun e=>by have:=zRx s.f g e.symm;omega)
end
theorem zXf {x y z:Int}:∀ u∈([Value.int .i64 x,.int .i64 y,.int .i64 z]:List Value),u.oneCell'=true:=by
 intro u hu
 rw [List.mem_cons,List.mem_cons,List.mem_singleton] at hu
 rcases hu with rfl|rfl|rfl<;>rfl
theorem zRy {w:World} {B e s n c:Nat} {A:oAx} {cs:List Value} (h:w.ownsRow B e s (.slice A n c) n cs):zGl w A cs:=by
 have h':=h;have hl:=h.1
 rcases h.2 with ⟨hv,h0⟩|⟨g,cap,cur,hv,hB,hg,hle,_⟩
 ·subst h0;have:cs=[]:=List.eq_nil_of_length_eq_zero (by simpa using hl);subst this;exact zGl.nil _ _
 injection hv with hv _ hcap;subst hv hcap
 refine fun _=>⟨g,0,rfl,?_,fun i hi=>?_⟩
 ·rcases Nat.lt_or_ge g w.heap.size with h'|h'
  ·exact h'
  rw [Array.getElem?_eq_none h'] at hg;cases hg
 rw [Nat.zero_add,h'.cellAt i oMx,List.getElem?_eq_getElem hi]
section
variable {w wr:World} {b g:Nat} {at1:List (ByteArray × Int)} {rs:List zFg} {fs:List zBa} {lb:Int}
theorem SB.inmem {Aa Ar Af:oAx} {ca cr cf:Nat} (h:SB w wr b g (.slice Aa at1.length ca) (.slice Ar rs.length cr) (.slice Af fs.length cf) at1 rs fs lb):zBp wr ⟨at1,Aa,ca,rs,Ar,cr,fs,Af,cf,lb⟩:=
 ⟨zRy h.a,zRy h.r,fun r hr=>by
  obtain ⟨A,c,e,_,hc⟩:=zSc (h.x r hr);injection e with e;rw [e]
  exact hc,zRy h.f⟩
theorem SB.setres {va vr vf:Value} (h:SB w wr b g va vr vf at1 rs fs lb) (i:Nat) (u:Value):SB w (wr.setCell ⟨w.heap.size,i,none⟩ u) b g va vr vf at1 rs fs lb:=by
 have hbw:=h.bw;have hgw:=h.gw;have hg2:=zMx (w:=wr) w.heap.size i u;obtain ⟨c0,c1,c2,c3,h0⟩:=h.res;have hsz:=h.gr.size;refine ⟨h.box.far (by show g≠w.heap.size;omega) u,?_,zSe h.a oMx,zSe h.r oMx,zSe h.f oMx,fun y hy=>zSe (h.x y hy) oMx,h.src.above hg2.size (fun k hk=>hg2.block k oMx (fun e=>by injection e with e;omega)),zMw h.gr hg2 (fun k hk=>by injection hk with hk;omega),hbw,hgw⟩;have hset:=h0.set i u
 match i with
 | 0=>exact ⟨u,c1,c2,c3,hset⟩
 | 1=>exact ⟨c0,u,c2,c3,hset⟩
 | 2=>exact ⟨c0,c1,u,c3,hset⟩
 | 3=>exact ⟨c0,c1,c2,u,hset⟩
 | n+4=>exact ⟨c0,c1,c2,c3,hset⟩
end
end Go.Proofs.YtafflnognagadaaGreatDoor
