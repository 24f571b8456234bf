import Derived.Test.YtfjjcoggoomlbaaGreatDoorZNB
import Derived.Test.YtfjjcoggoomlbaaGreatDoorZNE
import Derived.Laws.EntriesVeiled
set_option maxHeartbeats 16000000
set_option maxRecDepth 100000
set_option linter.unusedVariables false
set_option linter.unusedSimpArgs false
set_option linter.unusedSectionVars false
namespace Go.Proofs.YtfjjcoggoomlbaaGreatDoor
open Go.RowKit
theorem zNk {P:Program} {f:FuncId} {fn:Func} {c:Code} (hf:P.funcs[f]? = some fn) (hname:(fn.name == "runtime.NumGoroutine")=false) (hb:fn.body=some c) (args:Array Value) (w:World):(callFunc f args).run P w = .ok (.enter f args) w:=by
 have h1:fn.name ≠ "runtime.NumGoroutine" := by simpa using hname
 simp [callFunc,hf,h1,hb]
theorem zCy.cellD {rs:List zGk} {m n:Nat} {M:mRx} (h:zCy rs m n M) (hf:zBr rs n) {i k:Nat} (hi:i<m) (hk:k<n):((zSh rs i k:Int):Rat)=zSc rs*M i k:=by
 rw [zSm hf (by rw [h.len];exact hi) hk,h.q hi hk]
def zDm (n:Nat) (M:mRx) (k:Nat):Prop:=k<=n/\(∀ t,t<k->0<dD M t)/\(k<n->¬0<dD M k)
theorem zDm.same {n:Nat} {M:mRx} {j k:Nat} (h:zDm n M j) (h':zDm n M k):j=k:=by
 obtain ⟨a1,a2,a3⟩:=h;obtain ⟨b1,b2,b3⟩:=h'
 rcases Nat.lt_trichotomy j k with h1|h1|h1
 ·exact absurd (b2 j h1) (a3 oMx)
 ·exact h1
 exact absurd (a2 k h1) (b3 oMx)
theorem pos1 (kv cv:Value) (v u:zDf) (W:World):Calls Tryz.prog 128 #[kv,.agg #[.bool v.nb,.slice v.ad v.l v.c],.agg #[.bool u.nb,.slice u.ad u.l u.c],cv] W fun e W'=>e = .returned (.tuple #[])/\Below W.heap.size W W':=by
 have h1:Below W.heap.size W (W.alloc (.cells #[.bool v.nb,.slice v.ad v.l v.c] 83)):=bA;have h2:Below W.heap.size W ((W.alloc (.cells #[.bool v.nb,.slice v.ad v.l v.c] 83)).alloc (.cells #[.bool u.nb,.slice u.ad u.l u.c] 83)):=h1.alloc h1.size _;have HB:=oH h2;clear h1 h2
 go_enter Tryz.func128,Tryz.ntmps128
 go_wp2_with fail;refine bodyPost_end (v := .tuple #[]) (by simp [results,Tryz.results128,go_sem]) rfl ?_;exact ⟨rfl,HB.out⟩
theorem zWp (A:oAx) (c n:Nat) (rs:List zGk) (M:mRx) (w:World) (h:zCz w A rs) (hmf:zCy rs n n M) (hn1:1<=n) (hn:n<=12) (hl:¬600<zOt rs n) (henv:Env w) :
  Calls Tryz.prog 59 #[.slice A n c] w fun e w'=>∃ k,zDm n M k/\e = .returned (.int .i64 (k:Int))/\Below w.heap.size w w':=by
 have hf:=hmf.fine hn hn (fun e=>by omega);have hlen:=hmf.len;have HOF:=zDg A c n rs w h hf oMx hn1 henv;rw [hlen] at HOF;have hLL:=zQp hf oMx (by omega:zOt rs n<=600);rw [hlen] at hLL;have HC:=oH (fun i j (hi:i<n) (hj:j<n)=>hmf.cellD hf hi hj);have HL:=oH hLL;have HD:=oH (zSe rs);replace HOF:=oH HOF;generalize zSh rs=N at *;generalize zSc rs=D at *;clear h hmf hf henv hLL
 go_enter Tryz.func59,Tryz.ntmps59
 go_wp2_with fail;refine HOF.mono ?_;rintro e w1 ⟨R,cR,rows,dv,rfl,hrl,htab, -, -, -,hb⟩;have hrl':=hrl.symm;subst hrl';have HB:=oH hb;have HT:=oH htab;clear hb htab HOF;go_wp2_with fail;refine (zQj 128 #[] (fun args W=>zNk Tryz.func128 (by kernel_rfl) rfl args W) (fun _ _=>True) dv (some ⟨R,0,none⟩) cR rows.length rows N w w1 w.heap.size lRx HB.out HT.out rfl hn (fun i j hi hj=>HL.out i j hi) ⟨fun _ _ _ _ _=>trivial,fun _ _ _ _ _ _ _ _ _ _ _=>trivial⟩ trivial ?_).mono ?_
 ·intro k W mb kb rows' v u _ _ hBW _ _ _ _ _ _ _ _ _ _
  rw [Array.append_empty]
  exact (pos1 _ _ v u W).mono fun e W' ⟨h1,h2⟩=>⟨h1,trivial,zGm.of h2 hBW.size⟩
 rintro e w2 ⟨k,hk,hp,hnp,rfl, -,hb2⟩;have HP:=oH (show zDm rows.length M k from ⟨hk,zQh HD.out HC.out hk hp,fun hkn=>zQe HD.out HC.out hkn hp (hnp hkn)⟩);have HB2:=oH hb2;clear hp hnp hb2;go_wp2_with fail;go_ret
 exact ⟨k,HP.out,rfl,HB2.out⟩
theorem xDd {w:World} {b o d:Nat} {ss:List ByteArray} (hb:b<w.heap.size) (hc:∀ i,(h:i<ss.length)->w.cell? ⟨b,o+d+i,none⟩=some (.string ss[i])):zGw w (some ⟨b,o+d,none⟩) ss:=fun _=>⟨b,o+d,rfl,hb,hc⟩
def zAs (n:Nat) (M:mRx) (w:World) (e:Ending) (w':World):Prop:=∃ k,zDm n M k/\Below w.heap.size w w' /\
 ((k<n/\e = .returned (.tuple #[.agg #[.slice none 0 0,.slice none 0 0],.int .i64 6])) \/
  (k=n/\∃ U Dv rs,e = .returned (.tuple #[.agg #[.slice (some ⟨U,0,none⟩) n n,Dv],.int .i64 0])/\zBz w.heap.size n n (lK M n) U rs w'/\w'.ownsRow w.heap.size 39 1 Dv n (dTx M n)))
theorem zAu (A:oAx) (c n:Nat) (rs0:List zGk) (M:mRx) (w:World) (h:zCz w A rs0) (hmf:zCy rs0 n n M) (hn1:1<=n) (hn:n<=12) (hs:SymM n M) (hl:¬600<zOt rs0 n) (henv:Env w)
  (hfD:∀ k,k<n->(∀ t,t<=k->0<dD M t)->zBt (dD M k)) (hfL:∀ k i,k<i->i<n->(∀ t,t<=k->0<dD M t)->zBt (lL M i k)) :
  Calls Tryz.prog 12 #[.slice A n c] w (zAs n M w):=by
 generalize hQ:zAs n M w=Q;replace hQ:=oH hQ;have hf:=hmf.fine hn hn (fun e=>by omega);have hlen:=hmf.len;have hLL:=zQp hf oMx (by omega:zOt rs0 n<=600);rw [hlen] at hLL;have HC:=oH (fun i j (hi:i<n) (hj:j<n)=>hmf.cellD hf hi hj);have HL:=oH hLL;have HD:=oH (zSe rs0);have HDL:=oH (zSd hf)
 have HOF:=oH (fun W (hW:Below w.heap.size w W)=>(show Calls Tryz.prog 52 #[.slice A n c] W (zGc W n n (zSc rs0) (zSh rs0)) from by
  have:=zDg A c n rs0 W (h.below hW) hf oMx hn1 (henv.below hW);rw [hlen] at this
  exact this))
 have HBG:=oH (fun W (hW:Below w.heap.size w W)=>zAp A rs0 c n M W (h.below hW) hmf hn1 hn hs hl (henv.below hW));have HID:=oH (fun W (hW:Below w.heap.size w W)=>zCd n W hn (henv.below hW));have HFD:=oH hfD;have HFL:=oH hfL;generalize zSh rs0=N at *;generalize zSc rs0=D at *;have hb0:Below w.heap.size w (w.alloc (.cells #[.slice A n c] 27)):=bA;have hb1:Below w.heap.size w ((w.alloc (.cells #[.slice A n c] 27)).alloc (.cells #[.slice none 0 0,.slice none 0 0] 31)):=hb0.alloc hb0.size _;have HA:=oH ((Blk.new w 27 [.slice A n c]).alloc (.cells #[.slice none 0 0,.slice none 0 0] 31));have HR:=oH (Blk.new' (w:=w.alloc (.cells #[.slice A n c] 27)) (g:=w.heap.size+1) sMx 31 [.slice none 0 0,.slice none 0 0]);have HB0:=oH hb1
 have hsz0:((w.alloc (.cells #[.slice A n c] 27)).alloc (.cells #[.slice none 0 0,.slice none 0 0] 31)).heap.size=w.heap.size+2:=by simp
 have HE:=oH (henv.below hb1);clear h hmf hf hlen hLL hs hl henv hfD hfL hb0 hb1
 go_enter Tryz.func12,Tryz.ntmps12
 go_upto_region 1 with (fail);generalize ((w.alloc (.cells #[.slice A n c] 27)).alloc (.cells #[.slice none 0 0,.slice none 0 0] 31))=W0 at *;generalize hs0e:w.heap.size=s0 at *;have HS0:=oH hs0e;clear hs0e;have c0:=HA.at_ (i:=0) rfl;go_wp2_with fail;refine (HBG.out W0 HB0.out).mono ?_;rintro e w1 ⟨rfl,hb1⟩;have HB1:=oH hb1;have c1:=(HA.below hb1).at_ (i:=0) rfl;clear c0 hb1;go_upto_region 5 with (fail);have HF5:=oH (Blk.new w1 31 [.slice none 0 0,.slice none 0 0]);have HB5:=oH (HB1.alloc HB1.size (.cells #[.slice none 0 0,.slice none 0 0] 31));have hfb:=HB1.size;clear c1;generalize (w1.alloc (.cells #[.slice none 0 0,.slice none 0 0] 31))=X at *;generalize w1.heap.size=fb at *;have c1:=(HA.below HB5.out).at_ (i:=0) rfl;go_wp2_with fail;refine (HID.out X (HB0.trans (HB5.mono oMx))).mono ?_;rintro e w2 ⟨U,rs,rfl,hmf,htp,hot,hb2⟩;have HB2:=bTx2 HB5 hb2;have HG2:=oH ((show zBz X.heap.size n n idn U rs w2 from ⟨hmf,by have:=htp.o;rw [hmf.len] at this;exact this,hot⟩).mono HB5.size)
 have HF2:=oH (HF5.below hb2);have e0:=HF2.at_ (i:=0) rfl;have f0:=HF2.fr 0;clear hmf htp hot hb2 c1 HF5 HB1 HID HBG;go_upto_region 6 with (fail);have HF3:=oH (show Blk (w2.setCell ⟨fb,0,none⟩ (.slice (some ⟨U,0,none⟩) n n)) fb 31 [.slice (some ⟨U,0,none⟩) n n,.slice none 0 0] from HF2.set 0 _);have HG3:=oH (HG2.far HF2.ty dCx dCx 0 (.slice (some ⟨U,0,none⟩) n n));have HB3:=oH (HB2.setCell (p:=⟨fb,0,none⟩) hfb (.slice (some ⟨U,0,none⟩) n n));clear e0 f0 HF2 HG2 HB2;generalize (w2.setCell ⟨fb,0,none⟩ (.slice (some ⟨U,0,none⟩) n n))=X2 at *;have c2:=(HA.below HB3.out).at_ (i:=0) rfl;go_wp2_with fail;refine (HOF.out X2 (HB0.trans (HB3.mono oMx))).mono ?_;rintro e w3 ⟨R,cR,rows,dv,rfl,hrl,htab, -, -,hdv,hb3⟩;have hBs:=HB3.size;have HB4:=oH (HB3.trans (hb3.mono hBs));have hb4:Below w3.heap.size w3 (w3.alloc (.cells #[.bool dv.nb,.slice dv.ad dv.l dv.c,.slice (some ⟨R,0,none⟩) n cR] 86)):=bA;have hb5:Below w3.heap.size w3 ((w3.alloc (.cells #[.bool dv.nb,.slice dv.ad dv.l dv.c,.slice (some ⟨R,0,none⟩) n cR] 86)).alloc (.cells #[.int .i64 0] 32)):=hb4.alloc hb4.size _
 have hb6:Below w3.heap.size w3 (((w3.alloc (.cells #[.bool dv.nb,.slice dv.ad dv.l dv.c,.slice (some ⟨R,0,none⟩) n cR] 86)).alloc (.cells #[.int .i64 0] 32)).alloc (.cells #[.func (.func 53) #[] #[.pointer (some ⟨w3.heap.size+1,0,none⟩)]] 90)):=hb5.alloc hb5.size _;have HT:=oH (((Blk.new w3 86 [.bool dv.nb,.slice dv.ad dv.l dv.c,.slice (some ⟨R,0,none⟩) n cR]).alloc (.cells #[.int .i64 0] 32)).alloc (.cells #[.func (.func 53) #[] #[.pointer (some ⟨w3.heap.size+1,0,none⟩)]] 90));have HQ:=oH ((Blk.new' (w:=w3.alloc (.cells #[.bool dv.nb,.slice dv.ad dv.l dv.c,.slice (some ⟨R,0,none⟩) n cR] 86)) (g:=w3.heap.size+1) sMx 32 [.int .i64 0]).alloc (.cells #[.func (.func 53) #[] #[.pointer (some ⟨w3.heap.size+1,0,none⟩)]] 90));have HP:=oH (Blk.new' (w:=((w3.alloc (.cells #[.bool dv.nb,.slice dv.ad dv.l dv.c,.slice (some ⟨R,0,none⟩) n cR] 86)).alloc (.cells #[.int .i64 0] 32))) (g:=w3.heap.size+2) sMx 90 [.func (.func 53) #[] #[.pointer (some ⟨w3.heap.size+1,0,none⟩)]])
 have HB6:=bTx2 HB4 hb6;have HDN:=oH (hdv.below hb6)
 have HTB:=oH (show zHa W0.heap.size w3 (.slice (some ⟨R,0,none⟩) rows.length cR) rows n N from by
  rw [hrl]
  exact ⟨zVm (by have:=htab.o;rw [hrl] at this ⊢;exact this) hBs,fun r hr=>zVm (htab.r r hr) hBs,htab.l,htab.nd,htab.num⟩)
 have HTB6:=oH (HTB.below hb6);have HF6:=oH ((HF3.below hb3).below hb6);have HG6:=oH ((HG3.below hb3).below hb6);have HRL:=oH hrl;clear c2 hrl htab hdv hb3 hb4 hb5 hb6 HF3 HG3 HB3 HB4 HOF HTB HB5;go_upto_region 9 with (fail);generalize (((w3.alloc (.cells #[.bool dv.nb,.slice dv.ad dv.l dv.c,.slice (some ⟨R,0,none⟩) n cR] 86)).alloc (.cells #[.int .i64 0] 32)).alloc (.cells #[.func (.func 53) #[] #[.pointer (some ⟨w3.heap.size+1,0,none⟩)]] 90))=X5 at *;generalize w3.heap.size+2=pb at *;generalize w3.heap.size+1=qb at *;generalize w3.heap.size=tb at *;have c0:=HT.at_ (i:=0) rfl;have c1:=HT.at_ (i:=1) rfl;have c2:=HT.at_ (i:=2) rfl;go_wp2_with fail;clear c0 c1 c2
 refine (zQj 56 #[.pointer (some ⟨fb,0,none⟩),.pointer (some ⟨pb,0,none⟩),.pointer (some ⟨tb,0,none⟩),.pointer (some ⟨s0,0,none⟩)] (fun args W=>zNk Tryz.func56 (by kernel_rfl) rfl args W)
  (fun k W=>∃ Dv rs',zAt W0.heap.size fb tb s0 pb qb n (.slice A n c) (.slice (some ⟨R,0,none⟩) n cR) dv D M k (lK M k) U Dv rs' W) dv (some ⟨R,0,none⟩) cR n rows N W0 X5 W0.heap.size lRx HB6.out HTB6.out HRL.out hn (fun i j hi hj=>HL.out i j hi)
  ⟨fun k W W' ⟨Dv,rs',hd⟩ hb=>⟨Dv,rs',hd.below hb⟩,fun k W g j u v ⟨Dv,rs',hd⟩ hg ht hc hv=>⟨Dv,rs',hd.far ht dCx dCx dCx dCx dCx dCx dCx hc hv u⟩⟩
  ⟨.slice none 0 0,rs,⟨HF6.boxT,HT.boxT,(HA.below HB6.out).boxT,HP.boxT,HQ.boxT,HDN.out,World.ownsRow_nil _ _ _ _,NoU.nil _ _ _,by rw [lK_zero];exact HG6.out,fun j hj g e e2=>(by cases e2),hfb⟩⟩ ?_).mono ?_
 ·intro k W mb kb rows' v u hkn ⟨Dv,rsk,hdk⟩ hBW hpos hpk hv hu hT hrl' hm hk hmt hkt
  have hp':∀ t,t<k+1->0<(zQb N t).1 t t:=fun t ht=>by
   rcases Nat.lt_or_ge t k with h1|h1
   ·exact hpos t h1
   rw [show t=k by omega];exact hpk
  have hpA:=zQh HD.out HC.out (by omega:k+1<=n) hp';have hle:=(zQd (n:=n) (fun i j hi hj=>HL.out i j hi) zCp) k oMx;have hg1:grw 70 k<=300000:=zOr lRx oMx
  have hD0:D≠0:=by have:=HD.out;omega
  exact Dec2_any (k:=k) rfl hBW HE.out hn hkn hdk hv hu hT hrl' hm hk hmt hkt oMx (zQf hpos) hD0 (by have:=hle.1 k k hkn hkn;omega) (by have:=hle.2;omega) (by have:=HDL.out;omega) (fun i _ hi=>by have:=hle.1 i k hi hkn;omega)
   (lead_D HD.out HC.out hkn hpos) (fun i hki hi=>lead_L HD.out HC.out hkn (fun t ht=>hp' t oMx) hi oMx) (HFD.out k hkn fun t ht=>hpA t oMx) (fun i hki hi=>HFL.out k i hki hi fun t ht=>hpA t oMx)
 rintro e w9 ⟨k,hk,hp,hnp,rfl,⟨Dv,rs9,hd9⟩,hb9⟩;have HPK:=oH (show zDm n M k from ⟨hk,zQh HD.out HC.out hk hp,fun hkn=>zQe HD.out HC.out hkn hp (hnp hkn)⟩);have HB9:=oH (HB0.trans (hb9.mono oMx));have HR9:=oH (HR.below hb9);have c0:=(HA.below hb9).at_ (i:=0) rfl;have e0:=HR9.at_ (i:=0) rfl;have e1:=HR9.at_ (i:=1) rfl;have f0:=HR9.fr 0;have f1:=HR9.fr 1;have HD9:=oH hd9;clear hp hnp hb9 hd9
 by_cases hlt:k<n
 ·have hlt':(k:Int)<(n:Int):=by omega
  have HBF:=oH ((HB9.setCell (p:=⟨s0+1,0,none⟩) (by show s0<=s0+1;omega) (.slice none 0 0)).setCell (p:=⟨s0+1,1,none⟩) (by show s0<=s0+1;omega) (.slice none 0 0));have HRF:=oH (show Blk ((w9.setCell ⟨s0+1,0,none⟩ (.slice none 0 0)).setCell ⟨s0+1,1,none⟩ (.slice none 0 0)) (s0+1) 31 [.slice none 0 0,.slice none 0 0] from (HR9.set 0 _).set 1 _);go_wp2_with fail;have r0:=HRF.at_ (i:=0) rfl;have r1:=HRF.at_ (i:=1) rfl;refine bodyPost_ret (v := .tuple #[.agg #[.slice none 0 0,.slice none 0 0],.int .i64 6]) ?_ rfl ?_
  ·simp [results,Tryz.results12,go_sem,r0,r1]
  rw [<-hQ.out];exact ⟨k,HPK.out,by rw [HS0.out];exact HBF.out,.inl ⟨hlt,rfl⟩⟩
 have hlt':¬(k:Int)<(n:Int):=by omega
 have hkn:k=n:=by have:=HPK.1;omega
 subst hkn;obtain ⟨AD,cD,rfl, -⟩:=zVk HD9.dro;have c1:=HD9.q.cel 0 _ rfl;have c2:=HD9.f.cel 0 _ rfl;have c3:=HD9.f.cel 1 _ rfl;have HBF:=oH ((HB9.setCell (p:=⟨s0+1,0,none⟩) (by show s0<=s0+1;omega) (.slice (some ⟨U,0,none⟩) k k)).setCell (p:=⟨s0+1,1,none⟩) (by show s0<=s0+1;omega) (.slice AD k cD));have HRF:=oH (show Blk ((w9.setCell ⟨s0+1,0,none⟩ (.slice (some ⟨U,0,none⟩) k k)).setCell ⟨s0+1,1,none⟩ (.slice AD k cD)) (s0+1) 31 [.slice (some ⟨U,0,none⟩) k k,.slice AD k cD] from (HR9.set 0 _).set 1 _);have hty:=HR9.ty;have hty2:=hty.set (s0+1) 0 (.slice (some ⟨U,0,none⟩) k k)
 have hne:(Value.slice AD k cD).ownBlock≠some (s0+1):=fun e=>(zWa HD9.dro e).1.ne hty dCx rfl
 have HGF:=oH ((((HD9.gr.far hty dCx dCx 0 (.slice (some ⟨U,0,none⟩) k k)).far hty2 dCx dCx 1 (.slice AD k cD))).mono (show s0<=W0.heap.size by omega));have HOF:=oH (zVm ((HD9.dro.kept (zOo (s0+1) 0 (.slice (some ⟨U,0,none⟩) k k)) (.inr hne)).kept (zOo (s0+1) 1 (.slice AD k cD)) (.inr hne)) (show s0<=W0.heap.size by omega));clear hty hty2 hne;go_wp2_with fail;have r0:=HRF.at_ (i:=0) rfl;have r1:=HRF.at_ (i:=1) rfl;refine bodyPost_ret (v := .tuple #[.agg #[.slice (some ⟨U,0,none⟩) k k,.slice AD k cD],.int .i64 0]) ?_ rfl ?_
 ·simp [results,Tryz.results12,go_sem,r0,r1]
 rw [<-hQ.out];exact ⟨k,HPK.out,by rw [HS0.out];exact HBF.out,.inr ⟨rfl,U,_,rs9,rfl,by rw [HS0.out];exact HGF.out,by rw [HS0.out];exact HOF.out⟩⟩
end Go.Proofs.YtfjjcoggoomlbaaGreatDoor
