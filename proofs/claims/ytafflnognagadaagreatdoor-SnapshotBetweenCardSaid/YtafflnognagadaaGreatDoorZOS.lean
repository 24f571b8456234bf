import Derived.Test.YtafflnognagadaaGreatDoorZOR
set_option maxHeartbeats 16000000
set_option maxRecDepth 100000
set_option linter.unusedVariables false
set_option linter.unusedSimpArgs false
set_option linter.unusedSectionVars false
namespace Go.Proofs.YtafflnognagadaaGreatDoor
open Go.RowKit
def exT (n:Nat):zFv:={ at1:=[(⟨#[97]⟩,1)],aa:=some ⟨n,0,none⟩,ca:=1,rs:=[⟨⟨#[114]⟩,some ⟨n+1,0,none⟩,1,[0]⟩],ar:=some ⟨n+2,0,none⟩,cr:=1,fs:=[],af:=none,cf:=0,lb := -1 }
theorem zLv (n:Nat):zFu (exT n) where
 fine:={
  a1:=by simp [exT]
  a2:=by simp [exT]
  r1:=by simp [exT]
  r2:=by simp [exT]
  f2:=by simp [exT]
  cf:=by simp [exT]
  word:=by intro a ha;simp only [exT,List.mem_cons,List.not_mem_nil,or_false] at ha;rcases ha with rfl;exact ⟨rfl,dCx,dCx⟩
  rel:=by
   intro r hr
   simp only [exT,List.mem_cons,List.not_mem_nil,or_false] at hr
   rcases hr with rfl
   exact ⟨rfl,by simp,by simp [exT],by intro i hi;simp at hi,by simp,by simp⟩
  reld:=by simp [exT]
  feat:=by intro f hf;simp [exT] at hf
  featd:=by simp [exT]
  lb1:=by simp [exT]
  lb2:=by simp [exT]
  lb3:=by intro i hi e;simp [exT] at e }
 names:=by simp [exT]
 used:=by
  intro i hi
  simp [exT] at hi
  subst hi
  rfl
theorem Blk.vrowT {w:World} {g:Nat} {t:TypeId} {cs:List Value} (h:Blk w g t cs):zGl w (some ⟨g,0,none⟩) cs:=fun _=>⟨g,0,rfl,h.lt,fun i hi=>by rw [Nat.zero_add,h.cell i,List.getElem?_eq_getElem hi]⟩
theorem Blk.cellsT {w:World} {g:Nat} {t:TypeId} {xs:List Nat} (h:Blk w g t (vn xs)):zAe .i64 w (some ⟨g,0,none⟩) xs:=fun _=>⟨g,0,rfl,h.lt,fun i hi=>by rw [Nat.zero_add,h.cell i,xAf hi]⟩
def exV (w:World):World:=(((w.alloc (.cells #[.string ⟨#[97]⟩,.int .i64 1] 66)).alloc (.cells #[.int .i64 0] 3)).alloc (.cells #[.string ⟨#[114]⟩,.slice (some ⟨w.heap.size+1,0,none⟩) 1 1] 68)).alloc (.cells (exT w.heap.size).cells 31)
theorem zLy (w:World):(exV w).heap.size=w.heap.size+4:=by simp [exV]
theorem exV_in (w:World):zBp (exV w) (exT w.heap.size):=by
 unfold exV;refine ⟨?_,?_,?_,?_⟩
 ·exact ((((Blk.new' (w:=w) rfl 66 [.string ⟨#[97]⟩,.int .i64 1]).alloc _).alloc _).alloc _).vrowT
 ·exact ((Blk.new' (g:=w.heap.size+2) sMx 68 [.string ⟨#[114]⟩,.slice (some ⟨w.heap.size+1,0,none⟩) 1 1]).alloc _).vrowT
 ·intro r hr
  simp only [exT,List.mem_cons,List.not_mem_nil,or_false] at hr
  rcases hr with rfl
  exact (((Blk.new' (g:=w.heap.size+1) sMx 3 (vn [0])).alloc _).alloc _).cellsT
 intro h;simp [exT,fv] at h
theorem zLw (w:World):Below w.heap.size w (exV w):=by
 unfold exV;exact (((bA).alloc sMx _).alloc (by simp;omega) _).alloc (by simp;omega) _
theorem zLx (w:World):Blk (exV w) (w.heap.size+3) 31 (exT w.heap.size).cells.toList:=Blk.new' sMx _ _
theorem exT_db (n:Nat):DbK (exT n) [[]] where
 len:=rfl
 tab:=by
  intro i hi
  obtain rfl:i=0:=by simpa using hi
  exact ⟨⟨by simp [exT],(fun r hr=>by cases hr),.nil,(fun r hr=>by cases hr)⟩,by simp,(fun r hr=>by cases hr)⟩
def exD:List Dlt:=[(0,[([⟨#[49]⟩],1)])]
theorem zLu (n:Nat):zAg (exT n) exD:=zAg.one {
 rel:=⟨0,rfl,⟨by simp [exT],(fun r hr=>by
  rw [List.mem_singleton] at hr;subst hr
  exact ⟨rfl,fun i hi=>⟨by
   obtain rfl:i=0:=by simpa using hi
   exact Nat.lt_add_one 0,by
   obtain rfl:i=0:=by simpa using hi
   exact zMr sMx⟩⟩),List.pairwise_singleton _ _,(fun r hr=>by rw [List.mem_singleton] at hr;subst hr;decide)⟩⟩
 short:=by simp
 lit:=⟨by simp,(fun r hr=>by rw [List.mem_singleton] at hr;subst hr;exact ⟨by simp,dCx,dCx⟩)⟩ }
theorem exD_sl {w:World} {n:Nat} (hn:w.heap.size=n):Sl zOd (((w.alloc (.cells #[.string ⟨#[49]⟩] 9)).alloc (.cells #[.slice (some ⟨n,0,none⟩) 1 1,.int .i64 1] 64)).alloc (.cells #[.int .i64 0,.slice (some ⟨n+1,0,none⟩) 1 1] 45)) (.slice (some ⟨n+2,0,none⟩) 1 1) exD :=
 Sl.new (K:=zOd) (by simp [hn]) ⟨_,rfl,Sl.new (K:=zOe) (by simp [hn]) ⟨_,rfl,Sl.new (K:=zOg) hn rfl⟩⟩
theorem exE_1:zJj (zZm [[]] [] 0) exD=0:=by decide +kernel
theorem exE_2:zJj (zZm [[]] [(5,exD)] 1) []=0:=rfl
theorem exE_4:atD 0 [[]] [(5,exD),(9,[])] 1=[[([⟨#[49]⟩],1)]]:=by decide +kernel
theorem exE_5:(if atB 0 [(5,exD),(9,[])] 1 then (0:Int) else 64)=0:=rfl
theorem exH_0 (n:Nat):zBj (exT n) 0 [[]] [] := .new (exT_db n)
theorem zFy (w:World) (henv:Env w):Calls Tryz.prog 10 #[] w fun e w'=>e = .returned (.bool true)/\Below w.heap.size w w':=by
 have HE:=oH henv;have hv:=zLw w;have HIN:=oH (fun W (h:Below (w.heap.size+4) (exV w) W)=>(exV_in w).below (by rw [zLy];exact h));have HEN:=oH (fun W (h:Below (w.heap.size+4) (exV w) W)=>henv.below (hv.trans (h.mono oMx)));have HBL:=oH (fun W (h:Below (w.heap.size+4) (exV w) W)=>hv.trans (h.mono (show w.heap.size<=w.heap.size+4 by omega)));have HC:=oH (fun W (h:Below (w.heap.size+4) (exV w) W)=>(zLx w).below (by rw [zLy];exact h));have HR:=oH (show Below (w.heap.size+4) (exV w) (exV w) from bRx);have hsz:=zLy w;have HSZ:=oH hsz;clear henv hv
 go_enter Tryz.func10,Tryz.ntmps10
 go_wp2_with fail
 change Calls Tryz.prog 20 #[.agg (exT w.heap.size).cells,.slice (some ⟨w.heap.size+4,0,none⟩) 1 1] ((exV w).alloc (.cells #[.slice none 0 0] 43)) _
 have hA:=HR.alloc (Nat.le_of_eq HSZ.symm) (.cells #[.slice none 0 0] 43);refine (zDh (HEN.out _ hA) (HIN.out _ hA) (zLv _) (Sl.new (K:=zOf) HSZ.out ⟨_,rfl,Sl.nil zOe _ _ _⟩) (exT_db _)).mono ?_;rintro e w1 ⟨vb,vc,rfl,hb,hc,hbel⟩;obtain ⟨Ab,cb,hvb, -⟩:=hb.form;obtain ⟨Ac,cc,hvc, -⟩:=hc.form;have hvb:vb = .slice Ab 1 cb:=hvb;have hvc:vc = .slice Ac 0 cc:=hvc;subst hvb hvc;have hB1:Below (w.heap.size+4) (exV w) w1:=hA.trans (hbel.mono (by simp [hsz]));have HB1:=oH hB1;have s1:=hB1.size;rw [zLy] at s1;have hc1:=HC.out _ hB1;have x0:=hc1.at_ (i:=0) rfl;have x1:=hc1.at_ (i:=1) rfl;have x2:=hc1.at_ (i:=2) rfl;have x3:=hc1.at_ (i:=3) rfl
 have hlt1:w.heap.size+3<w1.heap.size:=by omega
 have HVB:=oH hb;have HVC:=oH hc;clear hA hb hc hbel hB1 hc1 HR;have x0:w1.cell? ⟨w.heap.size+3,0,none⟩=some (.slice (some ⟨w.heap.size,0,none⟩) 1 1):=x0;have x1:w1.cell? ⟨w.heap.size+3,1,none⟩=some (.slice (some ⟨w.heap.size+2,0,none⟩) 1 1):=x1;have x2:w1.cell? ⟨w.heap.size+3,2,none⟩=some (.slice none 0 0):=x2;have x3:w1.cell? ⟨w.heap.size+3,3,none⟩=some (.int .i64 (-1)):=x3;go_wp2_with fail;have hA:=HB1.alloc (HSZ.out▸HB1.size) (.cells #[.int .i64 0,.slice Ab 1 cb,.slice Ac 0 cc] 37);have HA:=oH hA;have hA2:=hA.alloc (HSZ.out▸hA.size) (.cells #[.string ⟨#[49]⟩] 9);have hA3:=hA2.alloc (HSZ.out▸hA2.size) (.cells #[.slice (some ⟨w1.heap.size+1,0,none⟩) 1 1,.int .i64 1] 64);have hA4:=hA3.alloc (HSZ.out▸hA3.size) (.cells #[.int .i64 0,.slice (some ⟨w1.heap.size+1+1,0,none⟩) 1 1] 45);have hb1:Below w1.heap.size w1 ((((w1.alloc (.cells #[.int .i64 0,.slice Ab 1 cb,.slice Ac 0 cc] 37)).alloc (.cells #[.string ⟨#[49]⟩] 9)).alloc (.cells #[.slice (some ⟨w1.heap.size+1,0,none⟩) 1 1,.int .i64 1] 64)).alloc (.cells #[.int .i64 0,.slice (some ⟨w1.heap.size+1+1,0,none⟩) 1 1] 45)):=(((bA).alloc sMx _).alloc (by simp;omega) _).alloc (by simp;omega) _
 have HH0:=oH (show Blk ((((w1.alloc (.cells #[.int .i64 0,.slice Ab 1 cb,.slice Ac 0 cc] 37)).alloc (.cells #[.string ⟨#[49]⟩] 9)).alloc (.cells #[.slice (some ⟨w1.heap.size+1,0,none⟩) 1 1,.int .i64 1] 64)).alloc (.cells #[.int .i64 0,.slice (some ⟨w1.heap.size+1+1,0,none⟩) 1 1] 45)) w1.heap.size 37 [.int .i64 0,.slice Ab 1 cb,.slice Ac 0 cc] from ((((Blk.new w1 37 [.int .i64 0,.slice Ab 1 cb,.slice Ac 0 cc]).alloc _).alloc _).alloc _));refine (zDb (S:=exT w.heap.size) (fi:=0) (t:=5) (D:=[[]]) (l:=[]) (ds:=exD) (HEN.out _ hA4) (HIN.out _ hA4) (zLv _) (HVB.below hb1) (HVC.below hb1) (exH_0 _) (exD_sl sMx) (zLu _) dCx dCx dCx).mono ?_;rintro e w2 hr;unfold zFj at hr;rw [if_pos (show zJj (zZm [[]] [] ([]:List Chn).length) exD=0 from exE_1)] at hr;obtain ⟨vb,vc,rfl,hb,hc,hbel⟩:=hr;obtain ⟨Ab2,cb2,hvb, -⟩:=hb.form;obtain ⟨Ac2,cc2,hvc, -⟩:=hc.form;have hvb:vb = .slice Ab2 1 cb2:=hvb;have hvc:vc = .slice Ac2 1 cc2:=hvc
 subst hvb hvc;have hB2:Below (w.heap.size+4) (exV w) w2:=hA4.trans (hbel.mono (HSZ.out▸hA4.size));have HB2:=oH hB2;have s2:=hbel.size;have hc2:=HC.out _ hB2;have y0:w2.cell? ⟨w.heap.size+3,0,none⟩=some (.slice (some ⟨w.heap.size,0,none⟩) 1 1):=hc2.at_ (i:=0) rfl;have y1:w2.cell? ⟨w.heap.size+3,1,none⟩=some (.slice (some ⟨w.heap.size+2,0,none⟩) 1 1):=hc2.at_ (i:=1) rfl;have y2:w2.cell? ⟨w.heap.size+3,2,none⟩=some (.slice none 0 0):=hc2.at_ (i:=2) rfl;have y3:w2.cell? ⟨w.heap.size+3,3,none⟩=some (.int .i64 (-1)):=hc2.at_ (i:=3) rfl;have hh:=HH0.below hbel;have g0:=hh.at_ (i:=0) rfl;have g1:=hh.at_ (i:=1) rfl;have g2:=hh.at_ (i:=2) rfl;have f0:=hh.fr 0;have f1:=hh.fr 1;have f2:=hh.fr 2;have hlt2:w1.heap.size<w2.heap.size:=hh.lt
 have hne:w.heap.size+3≠w1.heap.size:=by omega
 have hne':w1.heap.size≠w.heap.size+3:=by omega
 have h30:=oH (zIc hh (.int .i64 0) (.slice Ab2 1 cb2) (.slice Ac2 1 cc2));have HVB2:=oH (hb.kp h30.2.1 dCx);have HVC2:=oH (hc.kp h30.2.1 dCx);clear hA hA2 hA3 hA4 hb1 hb hc hbel hB2 hc2 hh HVB HVC HH0 x0 x1 x2 x3;go_wp2_with fail;have hB2:=HB2.trans (h30.2.2 (w.heap.size+4) oMx);refine (zDb (S:=exT w.heap.size) (fi:=0) (t:=9) (D:=[[]]) (l:=[(5,exD)]) (ds:=[]) (HEN.out _ hB2) (HIN.out _ hB2) (zLv _) HVB2.out HVC2.out ((exH_0 w.heap.size).snoc (c:=(5,exD)) dCx dCx dCx (zLu _) exE_1) (Sl.nil _ _ _ _) (zAg.nil _) dCx dCx dCx).mono ?_;rintro e w3 hr;unfold zFj at hr;rw [if_pos (show zJj (zZm [[]] [(5,exD)] ([(5,exD)]:List Chn).length) []=0 from exE_2)] at hr;obtain ⟨vb,vc,rfl,hb,hc,hbel⟩:=hr;obtain ⟨Ab3,cb3,hvb, -⟩:=hb.form;obtain ⟨Ac3,cc3,hvc, -⟩:=hc.form;have hvb:vb = .slice Ab3 1 cb3:=hvb;have hvc:vc = .slice Ac3 2 cc3:=hvc;subst hvb hvc;have hB3:Below (w.heap.size+4) (exV w) w3:=hB2.trans (hbel.mono (HSZ.out▸hB2.size))
 have HB3:=oH hB3;have hc3:=HC.out _ hB3;have z0:w3.cell? ⟨w.heap.size+3,0,none⟩=some (.slice (some ⟨w.heap.size,0,none⟩) 1 1):=hc3.at_ (i:=0) rfl;have z1:w3.cell? ⟨w.heap.size+3,1,none⟩=some (.slice (some ⟨w.heap.size+2,0,none⟩) 1 1):=hc3.at_ (i:=1) rfl;have z2:w3.cell? ⟨w.heap.size+3,2,none⟩=some (.slice none 0 0):=hc3.at_ (i:=2) rfl;have z3:w3.cell? ⟨w.heap.size+3,3,none⟩=some (.int .i64 (-1)):=hc3.at_ (i:=3) rfl;have hh:=h30.1.below hbel;have hlt3:w1.heap.size<w3.heap.size:=hh.lt;have k0:=hh.at_ (i:=0) rfl;have k1:=hh.at_ (i:=1) rfl;have k2:=hh.at_ (i:=2) rfl;have e0:=hh.fr 0;have e1:=hh.fr 1;have e2:=hh.fr 2;have h31:=oH (zIc hh (.int .i64 0) (.slice Ab3 1 cb3) (.slice Ac3 2 cc3));have HVB3:=oH (hb.kp h31.2.1 dCx);have HVC3:=oH (hc.kp h31.2.1 dCx);clear hB2 hb hc hbel hB3 hc3 hh HVB2 HVC2 h30 y0 y1 y2 y3 g0 g1 g2 f0 f1 f2;go_wp2_with fail;have hB3:=HB3.trans (h31.2.2 (w.heap.size+4) oMx)
 refine (zCs (S:=exT w.heap.size) (fi:=0) (v:=1) (D:=[[]]) (l:=[(5,exD),(9,[])]) (HEN.out _ hB3) (HIN.out _ hB3) (zLv _) HVB3.out HVC3.out (((exH_0 w.heap.size).snoc (c:=(5,exD)) dCx dCx dCx (zLu _) exE_1).snoc (c:=(9,[])) dCx dCx dCx (zAg.nil _) exE_2)).mono ?_;rintro e w4 ⟨vd,rfl,hd,hbel⟩;rw [exE_4] at hd;rw [exE_5];obtain ⟨Ad,cd,hvd, -⟩:=hd.form;have hvd:vd = .slice Ad 1 cd:=hvd;subst hvd;obtain ⟨bd,od,rfl,hbd,hcd⟩:=hd.sl1 sMx;obtain ⟨u,hu,hus⟩:=hcd 0 sMx;obtain ⟨Ae,ce,hue, -⟩:=hus.form;have hue:u = .slice Ae 1 ce:=hue;subst hue;rw [Nat.add_zero] at hu;have HU:=oH hu;have hB4:Below (w.heap.size+4) (exV w) w4:=hB3.trans (hbel.mono (HSZ.out▸hB3.size));have HB4:=oH hB4;have hh:=h31.1.below hbel;have hlt4:w1.heap.size<w4.heap.size:=hh.lt;have k0:=hh.at_ (i:=0) rfl;have k1:=hh.at_ (i:=1) rfl;have k2:=hh.at_ (i:=2) rfl;have HH4:=oH hh;have HVC4:=oH (HVC3.below hbel);clear hB3 hd hbel hh hB4 hus hcd z0 z1 z2 z3 HVB3 HVC3 h31 e0 e1 e2 hu
 go_wp2_with fail;refine (zDm (fi:=0) (t:=8) (l:=[(5,exD),(9,[])]) HVC4.out dCx dCx dCx).mono ?_;rintro e w5 ⟨rfl,hb5⟩;have h1:(0:Int)+((xAa [(5,exD),(9,[])] 8:Nat):Int)=1:=rfl;rw [h1];clear h1;have hh:=HH4.below hb5;have k0:=hh.at_ (i:=0) rfl;have k1:=hh.at_ (i:=1) rfl;have k2:=hh.at_ (i:=2) rfl;have HB5:=oH hb5;have hu5:=(hb5.cell (p:=⟨bd,od,none⟩) hbd).trans HU.out;have hbd5:bd<w5.heap.size:=Nat.lt_of_lt_of_le hbd hb5.size;clear hh hb5;go_wp2_with fail;refine (zDg (fi:=0) dCx dCx dCx).mono ?_;rintro e w6 ⟨rfl,hb6⟩;have h1:(0:Int)+((2:Nat):Int)=2:=rfl;rw [h1];clear h1;have hu6:=(hb6.cell (p:=⟨bd,od,none⟩) hbd5).trans hu5;have hbd6:bd<w6.heap.size:=Nat.lt_of_lt_of_le hbd5 hb6.size;have HB6:=oH (HBL.out _ (HB4.trans ((HB5.mono (HSZ.out▸HB4.size)).trans (hb6.mono (HSZ.out▸(Nat.le_trans HB4.size HB5.size))))));clear hb6 hu5 k0 k1 k2;go_wp2_with fail;go_ret
 exact ⟨rfl,HB6.out⟩
theorem zCf (A:oAx) (l cp:Nat) (w:World):Calls Tryz.prog 9 #[.slice A l cp] w fun e w'=>e = .returned (.bool (decide (l<=600)))/\Below w.heap.size w w':=by
 go_enter Tryz.func9,Tryz.ntmps9
 go_wp2_with fail;go_ret
 exact ⟨congrArg (fun x=>Ending.returned (.bool x)) (show decide ((l:Int)<=600)=decide (l<=600) from decide_eq_decide.2 oMx),bRx⟩
theorem zBs.below {w w':World} {A:oAx} {l:Nat} (h:zBs w A l) (hb:Below w.heap.size w w'):zBs w' A l:=fun hl=>by
 obtain ⟨bb,off,e,hlt,hc⟩:=h hl
 exact ⟨bb,off,e,Nat.lt_of_lt_of_le hlt hb.size,fun i hi=>by
  obtain ⟨z,hz,h2⟩:=hc i hi
  exact ⟨z,(hb.cell (p:=⟨bb,off+i,none⟩) hlt).trans hz,h2⟩⟩
structure UH (w W:World) (b gs gh:Nat) (S:zFv) (cs:Array Value) (fi:Int) (vb vc:Value) (D:List Tbl) (l:List Chn):Prop where
 sk:SK W b S
 sb:Blk W gs 31 cs.toList
 hb:Blk W gh 37 [.int .i64 fi,vb,vc]
 db:Sl zOf W vb D
 ch:Sl zOc W vc l
 bel:Below w.heap.size w W
 ns:gs≠b
 nh:gh≠b
 nb:w.heap.size<=b
section
variable {w W W':World} {b gs gh:Nat} {S:zFv} {cs:Array Value} {fi:Int} {vb vc:Value} {D:List Tbl} {l:List Chn}
theorem UH.below (h:UH w W b gs gh S cs fi vb vc D l) (hb:Below W.heap.size W W'):UH w W' b gs gh S cs fi vb vc D l:=⟨h.sk.below hb,h.sb.below hb,h.hb.below hb,h.db.below hb,h.ch.below hb,h.bel.trans (hb.mono h.bel.size),h.ns,h.nh,h.nb⟩
theorem UH.alloc (h:UH w W b gs gh S cs fi vb vc D l) (o:Obj):UH w (W.alloc o) b gs gh S cs fi vb vc D l:=h.below (bRx.alloc lRx o)
theorem UH.src (h:UH w W b gs gh S cs fi vb vc D l) (hg:W.grownBy W' (some b)) (hs:Src W' b):UH w W' b gs gh S cs fi vb vc D l:=⟨h.sk.step hg hs,h.sb.src hg h.ns,h.hb.src hg h.nh,h.db.src h.sk.src hg dCx,h.ch.src h.sk.src hg dCx,h.bel.trans ⟨hg.os,hg.tape,hg.output,hg.size,fun i hi=>hg.block i (Nat.lt_of_lt_of_le hi h.bel.size) (fun e=>by injection e with e;have:=h.nb;omega)⟩,h.ns,h.nh,h.nb⟩
theorem UH.inm (h:UH w W b gs gh S cs fi vb vc D l):zBp W S:=h.sk.mem
theorem UH.env (h:UH w W b gs gh S cs fi vb vc D l) (he:Env w):Env W:=he.below h.bel
end
theorem xAd {t:Int}:∀ {l:List Chn} (_:l.Pairwise fun a b=>a.1<=b.1) (i:Nat) (hi:i<l.length),l[i].1<=t↔i<xAa l t
 | c::l,h,0,_=>by
  unfold xAa
  split
  ·rename_i h1;simp;omega
  rename_i h1;simp;omega
 | c::l,h,i+1,hi=>by
  have hp:=List.pairwise_cons.1 h
  have hi2:i<l.length:=by simpa using hi
  have ih:=xAd (t:=t) hp.2 i hi2;have hc:=hp.1 l[i] (List.getElem_mem hi2);rw [List.getElem_cons_succ];unfold xAa
  split
  ·rename_i h1;omega
  rw [ih];omega
section
variable {S:zFv} {fi t:Int} {D:List Tbl} {l:List Chn} {most:Nat}
theorem zCk.last (h:zCk S most fi D l):zOi l<=20:=by
 have ht:=h.tim;unfold zOi
 rcases List.eq_nil_or_concat l with rfl|⟨l',c,rfl⟩
 ·decide
 rw [List.concat_eq_append] at *;rw [List.getLast?_append];exact ht c sMx
theorem zHe (k:Nat) (hk:k<=l.length):atB fi l (fi+k)=true:=decide_eq_true ⟨oMx,oMx⟩
theorem zHi (k:Nat) (hk:k<=l.length):atD fi D l (fi+k)=zZm D l k:=by
 unfold atD;rw [if_pos ⟨oMx,oMx⟩]
 congr 1
 omega
theorem zHh {v:Int} (h:v<fi\/fi+l.length<v):atB fi l v=false:=decide_eq_false oMx
theorem zBj.idle (h:zBj S fi D l) (hl:l.length<24) (ht:zOi l<=t) (ht2:t<=1099511627776):zBj S fi D (l++[(t,[])]):=h.snoc hl ht ht2 (zAg.nil S) rfl
theorem zZr:zZm D (l++[(t,[])]) (l.length+1)=zZm D l l.length:=zZq
end
theorem zEm {va vb:Value} {xs:List Tbl} {w:World} (ha:Sl zOf w va xs) (hb:Sl zOf w vb xs) (hL:LitD xs):Calls Tryz.prog 19 #[va,vb] w fun e w'=>e = .returned (.bool true)/\Below w.heap.size w w' :=
 (zEn ha hb hL).mono fun _ _ ⟨he,q,hq⟩=>⟨he,hq▸below_drewN bRx q⟩
theorem zFj.all {w w':World} {er fi:Int} {D:List Tbl} {l:List Chn} {e:Ending} (h:zFj w er fi D l e w'):∃ fi2 D2 l2,zFl w er fi2 D2 l2 e w'/\(er=0->fi2=fi/\D2=D/\l2=l):=by
 unfold zFj at h
 split at h
 ·rename_i h0;subst h0;exact ⟨fi,D,l,h,fun _=>⟨rfl,rfl,rfl⟩⟩
 rename_i h0;exact ⟨0,[],[],h,fun e=>absurd e h0⟩
theorem zFj.good {w w':World} {fi:Int} {D:List Tbl} {l:List Chn} {e:Ending} (h:zFj w 0 fi D l e w'):zFl w 0 fi D l e w':=by
 unfold zFj at h;rw [if_pos rfl] at h;exact h
section
variable {S:zFv} {cs:Array Value} {fi t v:Int} {D:List Tbl} {l:List Chn} {w:World} {ub uc u:Value} {k:Nat} {ds:List Dlt}
theorem zCq (hcs:S.cells=cs) (henv:Env w) (hin:zBp w S) (hok:zFu S) (hub:Sl zOf w ub D) (huc:Sl zOc w uc l) (hH:zBj S fi D l) (hk:k<=l.length):Calls Tryz.prog 14 #[.agg cs,.agg #[.int .i64 fi,ub,uc],.int .i64 (fi+(k:Int))] w (zFk w 0 (zZm D l k)):=by
 have h:=zCs (v:=fi+(k:Int)) henv hin hok hub huc hH;rw [zHe k hk,zHi k hk,if_pos rfl,hcs] at h;exact h
theorem RAtK_of (hcs:S.cells=cs) (hlow:zCg S) (hin:zBp w S) (hok:zFu S) (hub:Sl zOf w ub D) (huc:Sl zOc w uc l) (hH:zBj S fi D l) (hk:k<=l.length):Calls Tryz.prog 23 #[.agg cs,.agg #[.int .i64 fi,ub,uc],.int .i64 (fi+(k:Int))] w (zFk w 0 (zZm D l k)):=by
 have h:=zDp (v:=fi+(k:Int)) hin hok hlow hub huc hH;rw [zHe k hk,zHi k hk,if_pos rfl,hcs] at h;exact h
theorem zCr (hcs:S.cells=cs) (henv:Env w) (hin:zBp w S) (hok:zFu S) (hub:Sl zOf w ub D) (huc:Sl zOc w uc l) (hH:zBj S fi D l) (hv:v<fi\/fi+l.length<v):∃ D',Calls Tryz.prog 14 #[.agg cs,.agg #[.int .i64 fi,ub,uc],.int .i64 v] w (zFk w 64 D'):=by
 have h:=zCs (v:=v) henv hin hok hub huc hH;rw [zHh hv,if_neg dCx,hcs] at h;exact ⟨_,h⟩
theorem zDc (hcs:S.cells=cs) (henv:Env w) (hin:zBp w S) (hok:zFu S) (hub:Sl zOf w ub D) (huc:Sl zOc w uc l) (hH:zBj S fi D l) (hk:k<=l.length):Calls Tryz.prog 25 #[.agg cs,.agg #[.int .i64 fi,ub,uc],.int .i64 (fi+(k:Int))] w (zFl w 0 (fi+(k:Int)) (zZm D l k) (l.drop k)):=by
 have h:=zDe (v:=fi+(k:Int)) henv hin hok hub huc hH;rw [zHe k hk,zHi k hk,hcs,show (fi+(k:Int)-fi).toNat=k by omega] at h;exact h
theorem zDa (hcs:S.cells=cs) (henv:Env w) (hin:zBp w S) (hok:zFu S) (hub:Sl zOf w ub D) (huc:Sl zOc w uc l) (hH:zBj S fi D l) (hu:Sl zOd w u ds) (hds:zAg S ds) (hl:l.length<24) (ht:zOi l<=t) (ht2:t<=1099511627776) :
  Calls Tryz.prog 17 #[.agg cs,.agg #[.int .i64 fi,ub,uc],.int .i64 t,u] w (zFj w (zJj (zZm D l l.length) ds) fi D (l++[(t,ds)])):=by
 subst hcs;exact zDb henv hin hok hub huc hH hu hds hl ht ht2
theorem zCz (hcs:S.cells=cs) (henv:Env w) (hin:zBp w S) (hok:zFu S) (hub:Sl zOf w ub D) (huc:Sl zOc w uc l) (hH:zBj S fi D l) (hu:Sl zOd w u ds) (hds:zAg S ds) (hl:l.length<24) (ht:zOi l<=t) (ht2:t<=1099511627776) (he:zJj (zZm D l l.length) ds=0) :
  Calls Tryz.prog 17 #[.agg cs,.agg #[.int .i64 fi,ub,uc],.int .i64 t,u] w (zFl w 0 fi D (l++[(t,ds)])):=by
 have h:=zDa hcs henv hin hok hub huc hH hu hds hl ht ht2;rw [he] at h
 exact h.mono fun e w' h=>h.good
theorem zDd (hcs:S.cells=cs) (henv:Env w) (hin:zBp w S) (hok:zFu S) (hub:Sl zOf w ub D) (huc:Sl zOc w uc l) (hH:zBj S fi D l) (hv:v<fi\/fi+l.length<v):Calls Tryz.prog 25 #[.agg cs,.agg #[.int .i64 fi,ub,uc],.int .i64 v] w (zFl w 64 0 [] []):=by
 have h:=zDe (v:=v) henv hin hok hub huc hH;rw [zHh hv,hcs] at h;exact h
theorem zCv (hcs:S.cells=cs) (henv:Env w) (hin:zBp w S) (hok:zFu S) (hub:Sl zOf w ub D) (huc:Sl zOc w uc l) (hH:zBj S fi D l):Calls Tryz.prog 27 #[.agg cs,.agg #[.int .i64 fi,ub,uc]] w fun e w'=>e = .returned (.int .i64 0)/\Below w.heap.size w w':=by
 subst hcs;exact zCw henv hin hok hub huc hH
end
section
variable {S:zFv} {fi:Int} {D:List Tbl} {l:List Chn}
theorem zZu {m:Nat} (hm:m<=l.length):zZm D (l.take m) (l.take m).length=zZm D l m:=by
 unfold zZm;rw [List.length_take,Nat.min_eq_left hm,List.take_take,Nat.min_self]
theorem zBj.take (h:zBj S fi D l) (m:Nat):zBj S fi D (l.take m) :=
 ⟨h.base,h.f0,h.f1,by rw [List.length_take];have:=h.len;omega,fun c hc=>h.t0 c (List.mem_of_mem_take hc),h.asc.sublist (List.take_sublist _ _),fun c hc=>h.chg c (List.mem_of_mem_take hc),zGz.of_at fun k hk=>by
  rw [List.length_take] at hk;have h1:=h.ok.at_ k oMx;rw [List.getElem_take]
  have h2:zZm D (l.take m) k=zZm D l k:=by unfold zZm;rw [List.take_take,Nat.min_eq_left oMx]
  rw [h2]
  exact h1⟩
theorem zBj.last_take (h:zBj S fi D l) {k:Nat} (hk:k<l.length):zOi (l.take k)<=l[k].1:=by
 have h0:=h.t0 _ (List.getElem_mem hk);have ha:=h.asc;unfold zOi
 rcases k with _|k
 ·simpa using h0.1
 rw [List.take_succ_eq_append_getElem oMx,List.getLast?_append];exact List.pairwise_iff_getElem.1 ha k (k+1) oMx hk oMx
theorem zBj.replay (h:zBj S fi D l) (hok:zFu S) (hl:l.length<24):zBj S 0 (List.replicate S.rs.length []) ((0,zIj (List.replicate S.rs.length []) D D.length)::l):=by
 have hz:=zQl S;have hn:D.length=(List.replicate S.rs.length ([]:Tbl)).length:=h.base.len.trans hz.len.symm;have hto:=zIr hz h.base;rw [<-hn] at hto
 exact ⟨hz,dCx,dCx,by rw [List.length_cons];omega,fun c hc=>by
  rcases List.mem_cons.1 hc with rfl|hc
  ·exact ⟨Int.le_refl 0,show (0:Int)<=1099511627776 by decide⟩
  ·exact h.t0 c hc,List.pairwise_cons.2 ⟨fun c hc=>(h.t0 c hc).1,h.asc⟩,fun c hc=>by
  rcases List.mem_cons.1 hc with rfl|hc
  ·exact zIl hok hz h.base oMx
  exact h.chg c hc,hto.1,by rw [hto.2];exact h.ok⟩
theorem zZs (h:zBj S fi D l) (k:Nat):zZm (List.replicate S.rs.length []) ((0,zIj (List.replicate S.rs.length []) D D.length)::l) (k+1)=zZm D l k:=by
 have hz:=zQl S;have hn:D.length=(List.replicate S.rs.length ([]:Tbl)).length:=h.base.len.trans hz.len.symm;have hto:=zIr hz h.base;rw [<-hn] at hto;rw [zZo,hto.2]
end
end Go.Proofs.YtafflnognagadaaGreatDoor
