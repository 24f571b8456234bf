import Derived.Test.YtafflnognagadaaGreatDoorZON
set_option maxHeartbeats 16000000
set_option maxRecDepth 100000
set_option linter.unusedVariables false
set_option linter.unusedSimpArgs false
set_option linter.unusedSectionVars false
namespace Go.Proofs.YtafflnognagadaaGreatDoor
open Go.RowKit
theorem zAe.at1 {k:IntKind} {w:World} {b off:Nat} {xs:List Nat} (h:zAe k w (some ⟨b,off,none⟩) xs) {i:Nat} (hi:i<xs.length):b<w.heap.size/\w.cell? ⟨b,off+i,none⟩=some (.int k ((nth xs i:Nat):Int)):=by
 obtain ⟨b',off',e,hb,hc⟩:=h (by intro e;subst e;simp at hi);injection e with e;injection e with e1 e2;subst e1 e2;exact ⟨hb,hc i hi⟩
theorem xAi {w:World} {b off:Nat} {cs:List Value} (h:zGl w (some ⟨b,off,none⟩) cs) (hn:cs≠[]):b<w.heap.size:=by
 obtain ⟨b',off',e,hb,hc⟩:=h hn;injection e with e;injection e with e1 e2;subst e1;exact hb
theorem zCc.nil (at1:List (ByteArray × Int)) (xs:List Nat):zCc at1 (xs.take 0) []:=⟨rfl,fun i hi=>by simp at hi⟩
theorem zCc.push {at1:List (ByteArray × Int)} {xs:List Nat} {j:Nat} {ks:List ByteArray} {s:ByteArray} (h:zCc at1 (xs.take j) ks) (hj:j<xs.length) (hx:nth xs j<at1.length) (hs:zBg at1[nth xs j].2 s):zCc at1 (xs.take (j+1)) (ks++[s]):=by
 have hl:ks.length=j:=by rw [h.1,List.length_take];omega
 have hn:∀ i,i<j+1->nth (xs.take (j+1)) i=nth xs i:=fun i hi=>by
  unfold nth;rw [List.getD_eq_getElem?_getD,List.getD_eq_getElem?_getD,List.getElem?_take]
  simp [hi]
 refine ⟨by rw [List.length_append,List.length_singleton,hl,List.length_take];omega,fun i hi=>?_⟩;rw [List.length_append,List.length_singleton,hl] at hi;rw [hn i hi,List.getElem_append]
 split
 ·rename_i h1
  have h2:=h.2 i h1
  have e:nth (xs.take j) i=nth xs i:=by
   unfold nth;rw [List.getD_eq_getElem?_getD,List.getD_eq_getElem?_getD,List.getElem?_take]
   simp [show i<j by omega]
  rw [e] at h2;exact h2
 obtain rfl:i=j:=by omega
 refine ⟨hx,?_⟩
 have:i-ks.length=0:=by omega
 simp only [this,List.getElem_cons_zero];exact hs
theorem Src.und {w w':World} {b B:Nat} (h:Src w b) (hb:Below B w w') (hB:b<B):Src w' b:=by
 obtain ⟨A,l,c,k,h1,h2,h3,h4⟩:=h;refine ⟨A,l,c,k,(hb.block b hB).trans h1,h2,h3,fun hl=>?_⟩;obtain ⟨bb,off,e,h5,h6,h7⟩:=h4 hl;refine ⟨bb,off,e,h5,Nat.lt_of_lt_of_le h6 hb.size,fun i hi=>?_⟩;obtain ⟨z,h8,h9⟩:=h7 i hi;exact ⟨z,(hb.cell (p:=⟨bb,off+i,none⟩) (by show bb<B;omega)).trans h8,h9⟩
structure GS (w:World) (b:Nat) (W:World):Prop where
 gr:w.grownBy W (some b)
 src:Src W b
 lt:b<w.heap.size
section
variable {w W W':World} {b:Nat} {S:zFv}
theorem GS.refl (h:Src w b):GS w b w:=⟨World.grownBy.refl _ _,h,h.lt⟩
theorem GS.bel (h:GS w b W) (hb:Below w.heap.size W W'):GS w b W':=⟨⟨hb.os.trans h.gr.os,hb.tape.trans h.gr.tape,hb.output.trans h.gr.output,Nat.le_trans h.gr.size hb.size,fun k hk hne=>(hb.block k hk).trans (h.gr.block k hk hne)⟩,h.src.und hb h.lt,h.lt⟩
theorem GS.all (h:GS w b W) (hb:Below W.heap.size W W'):GS w b W':=h.bel (hb.mono h.gr.size)
theorem GS.step (h:GS w b W) (hg:W.grownBy W' (some b)) (hs:Src W' b):GS w b W':=⟨h.gr.trans hg,hs,h.lt⟩
theorem GS.sk (h:GS w b W) (hk:SK w b S):SK W b S:=hk.step h.gr h.src
end
theorem zFt.relx {S:zFv} (h:zFt S) {rel:Nat} (hr:rel<S.rs.length):S.rs[rel].xs.length<=1000/\S.rs[rel].xs≠[]/\∀ j,j<S.rs[rel].xs.length->nth S.rs[rel].xs j<S.at1.length:=by
 have h1:=h.rel _ (List.getElem_mem hr);refine ⟨h1.short,h1.some_,fun j hj=>h1.lt _ ?_⟩
 have e:nth S.rs[rel].xs j=S.rs[rel].xs[j]:=by simp [nth,hj]
 rw [e];exact List.getElem_mem hj
theorem RawT.push {S:zFv} {rel B:Nat} {L:Tbl} {ks:List ByteArray} {z:Int} (h:RawT S rel B L) (hk:zCc S.at1 (S.rs[rel]'h.lt).xs ks) (hz:1<=z/\z<=B):RawT S rel B (L++[(ks,z)]):=by
 refine ⟨h.lt,fun r hr=>?_,fun r hr=>?_⟩
 ·rcases List.mem_append.1 hr with h1|h1
  ·exact h.g r h1
  rw [List.mem_singleton] at h1;subst h1;exact hk
 rcases List.mem_append.1 hr with h1|h1
 ·exact h.pos r h1
 rw [List.mem_singleton] at h1;subst h1;exact hz
theorem MRows_of {b rel most:Nat} {S:zFv} {w:World} (hsk:SK w b S) (hok:zFu S) (hrel:rel<S.rs.length) (hm:most<=10) :
  Calls Tryz.prog 37 #[.pointer (some ⟨b,0,none⟩),.agg S.cells,.int .i64 (rel:Int),.int .i64 (most:Int)] w fun e w'=>∃ v T,e = .returned v/\zCo zOe w.heap.size w' v T/\PosT S rel (most*5) T/\T.length<=most/\Src w' b/\w.grownBy w' (some b):=by
 have HSKw:=oH hsk;have HSO:=oH hok;have hFX:=hok.fine.relx hrel;have HWD:=oH hok.fine.word;have hblt:=hsk.src.lt;have hz:Blk (w.alloc (.cells S.cells 31)) w.heap.size 31 S.cells.toList:=Blk.new w _ S.cells.toList;have hGSz:GS w b (w.alloc (.cells S.cells 31)):=(GS.refl hsk.src).all (bA)
 have hg0:IntKind.i64.wrap ((most:Int)+1)=((most+1:Nat):Int):=by rw [IntWalk.i64_in _ oMx];omega
 have HN:=oH (zCm b ((most+1:Nat):Int) _ hGSz.src oMx oMx);have HZ:=oH hz;have HGZ:=oH hGSz;have HREL:=oH hrel;unfold zFv.cells at HZ HGZ HN ⊢;obtain ⟨at1,aa,ca,rs,ar,cr,fs,af,cf,lb⟩:=S;simp only at HZ HGZ HN hrel hFX HWD ⊢;obtain ⟨b5,off5,rfl,hb5, -⟩:=hsk.mem.a.some (zHq (fun e=>by have h1:1<=at1.length:=hok.fine.a1;have h2:at1=[]:=e;rw [h2] at h1;simp at h1));obtain ⟨b6,off6,rfl,hb6, -⟩:=hsk.mem.r.some (zTg (by intro e;simp only at e;subst e;simp at hrel))
 have HXS:Hid (∀ W,SK W b ⟨at1,some ⟨b5,off5,none⟩,ca,rs,some ⟨b6,off6,none⟩,cr,fs,af,cf,lb⟩->zAe .i64 W rs[rel].ad rs[rel].xs/\W.cell? ⟨b6,off6+rel*2+1,none⟩=some (.slice rs[rel].ad rs[rel].xs.length rs[rel].cp)/\b6<W.heap.size):=oH fun W h =>
  ⟨h.mem.x _ (List.getElem_mem hrel),h.mem.r.at_ (zTf hrel).2,xAi h.mem.r (zTg (by intro e;simp only at e;subst e;simp at hrel))⟩
 have HAT0:Hid (∀ x,(hx:x<at1.length)->∀ W,SK W b ⟨at1,some ⟨b5,off5,none⟩,ca,rs,some ⟨b6,off6,none⟩,cr,fs,af,cf,lb⟩->W.cell? ⟨b5,off5+x*2,none⟩=some (.string at1[x].1)/\W.cell? ⟨b5,off5+x*2+1,none⟩=some (.int .i64 at1[x].2)):=oH fun x hx W h =>
  ⟨h.mem.a.at_ (zHp hx).1,h.mem.a.at_ (zHp hx).2⟩
 obtain ⟨b7,off7,had,hb7, -⟩:=hsk.mem.x _ (List.getElem_mem hrel) (hFX.2.1);replace had:rs[rel].ad=some ⟨b7,off7,none⟩:=had;rw [had] at HXS;obtain ⟨xs,hxs⟩:=eXx (rs[rel].xs);obtain ⟨cpx,hcpx⟩:=eXx (rs[rel].cp);have HXE:=oH hxs;rw [hxs,hcpx] at HXS;replace hFX:rs[rel].xs.length<=1000/\rs[rel].xs≠[]/\∀ j,j<rs[rel].xs.length->nth rs[rel].xs j<at1.length:=hFX;rw [hxs] at hFX;obtain ⟨hx1,hx2,hx3⟩:=hFX;have HX3:=oH hx3;clear hsk hok hz hGSz hxs hcpx had hx2 hx3 hb5 hb6 hb7
 go_enter Tryz.func37,Tryz.ntmps37
 go_wp2_with fail;generalize w.alloc (.cells #[.slice (some ⟨b5,off5,none⟩) at1.length ca,.slice (some ⟨b6,off6,none⟩) rs.length cr,.slice af fs.length cf,.int .i64 lb] 31)=wy at *;refine HN.mono ?_;rintro e w1 ⟨n0,rfl,hr,hs1,hg1⟩;have HG1:=oH (HGZ.step hg1 hs1);have HB1:=oH (HZ.src hg1 oMx);clear hs1 hg1 HN HGZ HZ hg0;go_wp2_with fail
 go_loopw [9,10] (fun v iv wr=>∃ (n:Nat) (L:Tbl),iv = .int .i64 (n:Int)/\zCo zOe w.heap.size wr v L/\RawT ⟨at1,some ⟨b5,off5,none⟩,ca,rs,some ⟨b6,off6,none⟩,cr,fs,af,cf,lb⟩ rel 5 L/\L.length+n<=most/\GS w b wr/\Blk wr w.heap.size 31 [.slice (some ⟨b5,off5,none⟩) at1.length ca,.slice (some ⟨b6,off6,none⟩) rs.length cr,.slice af fs.length cf,.int .i64 lb]) (fun _ iv _=>(intOf iv).toNat)
 ·exact ⟨n0,[],rfl,.nil _ _ _,⟨HREL.out,(fun _ h=>by cases h),(fun _ h=>by cases h)⟩,by simp only [List.length_nil];omega,HG1.out,HB1.out⟩
 clear HG1 HB1;obtain ⟨n,L,rfl,hown,hraw,hln,hgs,hbs⟩:=hrel;obtain ⟨Av,cv,rfl, -⟩:=hown.form;have HOWN:=oH hown;have HRAW:=oH hraw;have HGS:=oH hgs;have HBS:=oH hbs;have hszr:=hgs.gr.size;clear hown hraw hgs hbs
 by_cases hn:0<n
 ·have hd:=decide_eq_true hn;have hPB:Blk (wr.alloc (.cells #[.int .i64 1,.int .i64 1,.int .i64 2,.int .i64 5] 3)) wr.heap.size 3 [.int .i64 1,.int .i64 1,.int .i64 2,.int .i64 5]:=Blk.new wr _ [_,_,_,_];have hba:Below wr.heap.size wr (wr.alloc (.cells #[.int .i64 1,.int .i64 1,.int .i64 2,.int .i64 5] 3)):=bA
  have HPK:=oH (zDn b wr.heap.size 4 (fun i=>[1,1,2,5].getD i 1) _ (HGS.all hba).src (fun i hi=>by
   have h4:i=0\/i=1\/i=2\/i=3:=by omega
   rcases h4 with rfl|rfl|rfl|rfl<;>exact hPB.at_ rfl) oMx hPB.lt oMx oMx)
  have HGA:=oH (HGS.all hba);have HOA:=oH (HOWN.below hba);have HBA:=oH (HBS.below hba);clear hPB hba HGS HOWN HBS;go_wp2_with fail;refine HPK.mono ?_;rintro e w2 ⟨pi,hpi,rfl,hs2,hg2⟩;obtain ⟨z,hz⟩:∃ z:Int,[(1:Int),1,2,5].getD pi 1=z:=⟨_,rfl⟩
  have hz15:1<=z/\z<=5:=by
   rw [<-hz]
   have h4:pi=0\/pi=1\/pi=2\/pi=3:=by omega
   rcases h4 with rfl|rfl|rfl|rfl<;>decide
  rw [hz];have HG2:=oH (HGA.step hg2 hs2);have HO2:=oH (HOA.src HGA.src hg2 dCx);have HB2:=oH (HBA.src hg2 oMx);have HK2:=oH (HG2.sk HSKw.out);have hbb:Below w2.heap.size w2 (w2.alloc (.cells #[.slice none 0 0,.int .i64 z] 64)):=bA
  have HZ2:=oH (show GS w2 b (w2.alloc (.cells #[.slice none 0 0,.int .i64 z] 64))/\Blk (w2.alloc (.cells #[.slice none 0 0,.int .i64 z] 64)) w.heap.size 31 [.slice (some ⟨b5,off5,none⟩) at1.length ca,.slice (some ⟨b6,off6,none⟩) rs.length cr,.slice af fs.length cf,.int .i64 lb]/\Blk (w2.alloc (.cells #[.slice none 0 0,.int .i64 z] 64)) w2.heap.size 64 [.slice none 0 0,.int .i64 z] from
   ⟨(GS.refl hs2).all hbb,HB2.below hbb,Blk.new w2 _ [_,_]⟩)
  have hgx:w.heap.size<w2.heap.size:=HB2.lt;clear hz hbb hs2 hg2 hpi HPK HGA HOA HBA;go_upto_region 6 with (fail);generalize w2.alloc (.cells #[.slice none 0 0,.int .i64 z] 64)=w3 at HZ2 ⊢;obtain ⟨hgs3,hbs3,hgx3⟩:=HZ2.out;have hcs:=HXS.out w3 (hgs3.sk HK2.out);have q1:=hbs3.at_ (i:=1) rfl;have q2:=hcs.2.1;have hb6:=hcs.2.2;clear hcs;have HG3:=oH hgs3;have HB3:=oH hbs3;have HX30:=oH hgx3;clear hgs3 hbs3 hgx3 HZ2;go_wp2_with fail;clear q1 q2;obtain ⟨wo,hwo⟩:∃ wo:World,wo=wr:=⟨_,rfl⟩;subst hwo
  go_loopw [33] (fun iv wq=>∃ (j:Nat) (ks:List ByteArray) (vk:Value),iv = .int .i64 (j:Int)/\j<=xs.length/\zCo zOg w2.heap.size wq vk ks/\zCc at1 (xs.take j) ks/\Blk wq w2.heap.size 64 [vk,.int .i64 z]/\Blk wq w.heap.size 31 [.slice (some ⟨b5,off5,none⟩) at1.length ca,.slice (some ⟨b6,off6,none⟩) rs.length cr,.slice af fs.length cf,.int .i64 lb]/\GS w2 b wq) (fun iv _=>xs.length-(intOf iv).toNat)
  ·exact ⟨0,[],_,rfl,oLx,.nil _ _ _,zCc.nil _ _,HX30.out,HB3.out,HG3.out⟩
  clear HG3 HB3 HX30;obtain ⟨j,ks,vk,rfl,hj,hkt,hkg,hxb,hsb,hgs⟩:=hrel
  have hkl:ks.length=j:=by rw [hkg.1,List.length_take];omega
  obtain ⟨Ak,ck,rfl, -⟩:=hkt.form;rw [hkl] at hkt hxb;have HKL:=oH hkl
  by_cases hlt:j<xs.length
  ·have hxj:=HX3.out j hlt;have hcs:=(HXS.out wr (hgs.sk HK2.out)).1.at1 hlt;have q1:=hcs.2;have hb7:=hcs.1;have HAT:=oH (HAT0.out (nth xs j) hxj);have HK3:Hid (at1[nth xs j].2=1\/at1[nth xs j].2=2\/at1[nth xs j].2=3):=oH (by have:=HWD.out _ (List.getElem_mem hxj);omega);have HPU:=oH (fun (s:ByteArray) (h:zBg at1[nth xs j].2 s)=>hkg.push hlt hxj h);generalize at1[nth xs j].1=an at *;generalize at1[nth xs j].2=ak at *;have HTz:=oH hkt;have HXz:=oH hxb;have HBz:=oH hsb;have GSz:=oH hgs;have HGXB:=oH (show w2.heap.size≠b by omega);have HWB:=oH (show w.heap.size≠b by omega);have HLEN:Hid (ks.length<=1000):=oH oMx;have hb5w:=xAi (hgs.sk HK2.out).mem.a (zHq (by intro e;subst e;simp at hxj));clear hcs hkg hkl;generalize hxn:nth xs j=x at *;have KB:Hid (wr.drew.cell? ⟨w2.heap.size,0,none⟩=some (.slice Ak j ck)/\wr.drew.cell? ⟨w.heap.size,0,none⟩=some (.slice (some ⟨b5,off5,none⟩) at1.length ca)/\wr.drew.cell? ⟨b5,off5+x*2,none⟩=some (.string an)/\wr.drew.cell? ⟨b5,off5+x*2+1,none⟩=some (.int .i64 ak)):=oH ⟨hxb.drew.at_ (i:=0) rfl,hsb.drew.at_ (i:=0) rfl,(HAT.out _ ((hgs.all bRx.drew).sk HK2.out)).1,(HAT.out _ ((hgs.all bRx.drew).sk HK2.out)).2⟩
   have HWz:=oH (Below.refl wr.heap.size wr).drew;clear hkt hxb hsb hgs hxn;go_wp2_with fail;refine xAq (S:=(fun w'=>w'.cell? ⟨w2.heap.size,0,none⟩=some (.slice Ak j ck)/\w'.cell? ⟨w.heap.size,0,none⟩=some (.slice (some ⟨b5,off5,none⟩) at1.length ca)/\w'.cell? ⟨b5,off5+x*2,none⟩=some (.string an)/\w'.cell? ⟨b5,off5+x*2+1,none⟩=some (.int .i64 ak))) 12 (by kernel_rfl) rfl (by kernel_rfl) (by kernel_rfl) rfl (by exact KB.out) (fun hHeld=>?_);simp only [List.pop_toArray,List.dropLast_cons_cons,List.dropLast_singleton];refine tkH 0 ?_;refine tkH 1 ?_;refine tkH 2 ?_;refine tkH 3 ?_;refine tkH 4 ?_;refine tkH 5 ?_;refine tkH 6 ?_;refine tkH 7 ?_
   try simp only [Act.put,tkA,tkB,tkC]
   refine tkS 8 fun K hK=>?_
   go_simp
   (go_at_call 53;(with_reducible refine (zCj b an ak _ (GSz.out.src.below HWz.out) HK3.out).mono ?_);rintro e wa ⟨sv,rfl,hgood,hs,hg⟩;have hga:=(zMt (b:=b) HWz.out).trans hg;have GSa:=oH (GSz.out.step hga hs);have HGD:=oH hgood;have HTa:=oH (HTz.out.src GSz.out.src hga dCx);have HXa:=oH (HXz.out.src hga HGXB.out);have HBa:=oH (HBz.out.src hga HWB.out);have KBa:Hid (∀ W,Below wa.heap.size wa W->W.cell? ⟨w2.heap.size,0,none⟩=some (.slice Ak j ck)/\W.cell? ⟨w.heap.size,0,none⟩=some (.slice (some ⟨b5,off5,none⟩) at1.length ca)/\W.cell? ⟨b5,off5+x*2,none⟩=some (.string an)/\W.cell? ⟨b5,off5+x*2+1,none⟩=some (.int .i64 ak)):=oH fun W hW=>⟨(HXa.out.below hW).at_ (i:=0) rfl,(HBa.out.below hW).at_ (i:=0) rfl,(HAT.out W ((GSa.out.all hW).sk HK2.out)).1,(HAT.out W ((GSa.out.all hW).sk HK2.out)).2⟩;clear hga hs hg hgood)
   go_wp2_with fail;refine hK.out _ _ ?_ (fun hHeld=>?_)
   ·first|with_reducible exact KBa.out _ bRx|with_reducible exact KBa.out _ HWm.out|with_reducible exact KSc.out
   clear hK K
   try simp only [Act.put,tkA,tkB,tkC]
   refine tkS 9 fun K hK=>?_
   go_simp
   have HWm:=oH ((Below.refl wa.heap.size wa).alloc lRx (.cells #[.string sv] 9));refine hK.out _ _ ?_ (fun hHeld=>?_)
   ·first|with_reducible exact KBa.out _ bRx|with_reducible exact KBa.out _ HWm.out|with_reducible exact KSc.out
   clear hK K
   try simp only [Act.put,tkA,tkB,tkC]
   refine tkS 10 fun K hK=>?_
   (refine zWf _ _ _ (by rfl) (by rfl) Tryz.underlying62 Tryz.kiTxt (by go_simp) (HTa.below HWm.out) (by go_simp) (Sl.new (K:=zOg) (x:=sv) rfl rfl) (by have:=HLEN.out;simp only [List.length_singleton];omega) ((GSa.all HWm.out).gr.size) ?_;intro v' wc hap;obtain ⟨An,cn,hv, -⟩:=hap.own.form;rw [List.length_append,List.length_singleton,HKL.out] at hv;subst hv;have HAP:=oH hap.own;have GSc:=oH ((GSa.all HWm.out).bel (hap.bel bRx));have hxc:=(HXa.below HWm.out).app hap dCx;have HXc:=oH hxc;have hbc:=(HBa.below HWm.out).app hap dCx;have HBc:=oH hbc;have kc:=hxc.at_ (i:=0) rfl;have fc:=hxc.fr 0;have KSc:Hid (wc.cell? ⟨w2.heap.size,0,none⟩=some (.slice Ak j ck)/\wc.cell? ⟨w.heap.size,0,none⟩=some (.slice (some ⟨b5,off5,none⟩) at1.length ca)/\wc.cell? ⟨b5,off5+x*2,none⟩=some (.string an)/\wc.cell? ⟨b5,off5+x*2+1,none⟩=some (.int .i64 ak)):=oH ⟨kc,hbc.at_ (i:=0) rfl,(HAT.out _ (GSc.sk HK2.out)).1,(HAT.out _ (GSc.sk HK2.out)).2⟩;clear hxc hbc;clear hap)
   refine hK.out _ _ ?_ (fun hHeld=>?_)
   ·first|with_reducible exact KBa.out _ bRx|with_reducible exact KBa.out _ HWm.out|with_reducible exact KSc.out
   clear hK K
   try simp only [Act.put,tkA,tkB,tkC]
   refine tkH 11 ?_
   try simp only [Act.put,tkA,tkB,tkC]
   refine wpAnyH_done (by kernel_rfl) ?_ _;simp only [zWx,List.getElem_toArray,List.getElem_cons_succ,List.getElem_cons_zero];go_wp2_with fail;go_roundw
   ·exact ⟨j+1,ks++[sv],_,by go_num,oMx,HAP.store HXc.out dCx,HPU.out sv HGD.out,HXc.set 0 _,HBc.far (by show w.heap.size≠w2.heap.size;omega) _,GSc.bel (bRx.setCell (p:=⟨w2.heap.size,0,none⟩) lRx _)⟩
   simp [intOf];omega
  obtain rfl:j=xs.length:=by omega
  have hkg2:zCc at1 rs[rel].xs ks:=by rw [List.take_length] at hkg;rw [HXE.out];exact hkg
  have hx0:=hxb.at_ (i:=0) rfl;have hx1':=hxb.at_ (i:=1) rfl;have HL:=oH (HO2.src HK2.src hgs.gr dCx);have HT:=oH (hkl▸hkt.sl:Sl zOg wr (.slice Ak ks.length ck) ks);have HTT:Hid (Sl zOg wr (.slice Ak xs.length ck) ks):=oH hkt.sl;have HGR:=oH (HG2.step hgs.gr hgs.src);have HSXB:=oH hsb;have HRW:=oH (HRAW.push hkg2 hz15)
  have hLL:L.length<=100:=by omega
  have hbw:w2.heap.size<wr.heap.size:=hxb.lt
  have hgn:IntKind.i64.wrap ((n:Int)-1)=((n-1:Nat):Int):=by rw [IntWalk.i64_in _ oMx];omega
  clear hkt hkg hxb hsb hgs hkg2 hkl HT
  go_wp2_with (at_builtin;refine xAn _ _ _ rfl rfl Tryz.underlying43 Tryz.kiRow (HL.alloc _) (Sl.new (K:=zOe) (x:=(ks,z)) rfl ⟨_,rfl,HTT.out⟩) (by simp only [List.length_singleton];omega) (by simp;omega) ?_)
  intro v' w7 hap
  have HAP:Hid (zCo zOe w.heap.size w7 v' (L++[(ks,z)])):=oH hap.own;have HG7:=oH ((HGR.all (bA)).bel (hap.bel bRx));have HB7:=oH ((HSXB.alloc _).app hap dCx);clear hap;go_wp2_with fail;go_roundw
  ·exact ⟨n-1,L++[(ks,z)],rfl,HAP.out,HRW.out,by rw [List.length_append,List.length_singleton];omega,HG7.out,HB7.out⟩
  simp [intOf];omega
 obtain rfl:n=0:=by omega
 have HRS:=oH (zEp HOWN.sl (HRAW.lit HSO.out oMx oMx));go_wp2_with fail;refine HRS.mono ?_;rintro e w9 ⟨v9,rfl,ho,hb9⟩;obtain ⟨A9,c9,rfl, -⟩:=ho.form;have HO9:=oH (ho.low hszr);have HG9:=oH (HGS.all hb9);clear ho hb9;go_wp2_with fail;go_ret
 exact ⟨_,norm L,rfl,HO9.out,HRAW.norm oMx,Nat.le_trans (zQo L) oMx,HG9.src,HG9.gr⟩
theorem zWv {S:zFv} {D:List Tbl} {N:Tbl} (h:∀ i,(hi:i<D.length)->zGi S i D[i]/\D[i].length<=60/\∀ r∈D[i],1<=r.2/\r.2<=100) (hN:zGi S D.length N/\N.length<=60/\∀ r∈N,1<=r.2/\r.2<=100) :
  ∀ i,(hi:i<(D++[N]).length)->zGi S i (D++[N])[i]/\(D++[N])[i].length<=60/\∀ r∈(D++[N])[i],1<=r.2/\r.2<=100:=fun i hi=>by
 by_cases h1:i<D.length
 ·rw [List.getElem_append_left h1];exact h i h1
 obtain rfl:i=D.length:=by rw [List.length_append,List.length_singleton] at hi;omega
 have e:(D++[N])[D.length]=N:=by simp
 rw [e];exact hN
theorem good_r1:zBg 1 ⟨#[49]⟩:=zMr sMx
theorem good_r2:zBg 2 ⟨#[49]⟩:=good_num sMx
theorem good_r3:zBg 3 ⟨#[114,101,100]⟩:=zMs sMx
theorem MRich_of {b most:Nat} {S:zFv} {w:World} (hsk:SK w b S) (hok:zFu S) (hlow:zCg S) (hm1:2<=most) (hm:most<=5) :
  Calls Tryz.prog 33 #[.pointer (some ⟨b,0,none⟩),.agg S.cells,.int .i64 (most:Int)] w fun e w'=>∃ v D,e = .returned v/\zCo zOf w.heap.size w' v D/\DbK S D/\Src w' b/\w.grownBy w' (some b):=by
 have HSKw:=oH hsk;have HSO:=oH hok;have HLOW:=oH hlow;have HFX:=oH (fun (rel:Nat) (hrel:rel<S.rs.length)=>hok.fine.relx hrel);have HWD:=oH hok.fine.word;have hr6:=hok.fine.r2;have hblt:=hsk.src.lt;have HGZ:=oH (show GS w b (w.alloc (.cells S.cells 31)) from (GS.refl hsk.src).all (bA));have HZ:=oH (show Blk (w.alloc (.cells S.cells 31)) w.heap.size 31 S.cells.toList from Blk.new w _ S.cells.toList);have HUS:=oH (fun (W:World) (a:Nat) (hW:SK W b S)=>RUses_of S a W hW.mem hok hlow);unfold zFv.cells at HZ HGZ HUS ⊢;obtain ⟨at1,aa,ca,rs,ar,cr,fs,af,cf,lb⟩:=S;simp only at HZ HGZ HUS HFX HWD hr6 ⊢;obtain ⟨b5,off5,rfl,hb5, -⟩:=hsk.mem.a.some (zHq (fun e=>by have h1:1<=at1.length:=hok.fine.a1;have h2:at1=[]:=e;rw [h2] at h1;simp at h1));obtain ⟨b6,off6,rfl,hb6, -⟩:=hsk.mem.r.some (zTg (fun e=>by have h1:1<=rs.length:=hok.fine.r1;have h2:rs=[]:=e;rw [h2] at h1;simp at h1))
 have HXS:Hid (∀ rel,(hrel:rel<rs.length)->∀ W,SK W b ⟨at1,some ⟨b5,off5,none⟩,ca,rs,some ⟨b6,off6,none⟩,cr,fs,af,cf,lb⟩->zAe .i64 W rs[rel].ad rs[rel].xs/\W.cell? ⟨b6,off6+rel*2,none⟩=some (.string rs[rel].nm)/\W.cell? ⟨b6,off6+rel*2+1,none⟩=some (.slice rs[rel].ad rs[rel].xs.length rs[rel].cp)/\b6<W.heap.size):=oH fun rel hrel W h =>
  ⟨h.mem.x _ (List.getElem_mem hrel),h.mem.r.at_ (zTf hrel).1,h.mem.r.at_ (zTf hrel).2,xAi h.mem.r (zTg (by intro e;simp only at e;subst e;simp at hrel))⟩
 have HAT0:Hid (∀ x,(hx:x<at1.length)->∀ W,SK W b ⟨at1,some ⟨b5,off5,none⟩,ca,rs,some ⟨b6,off6,none⟩,cr,fs,af,cf,lb⟩->W.cell? ⟨b5,off5+x*2,none⟩=some (.string at1[x].1)/\W.cell? ⟨b5,off5+x*2+1,none⟩=some (.int .i64 at1[x].2)):=oH fun x hx W h =>
  ⟨h.mem.a.at_ (zHp hx).1,h.mem.a.at_ (zHp hx).2⟩
 have hgm:IntKind.i64.wrap ((most:Int)-1)=((most-1:Nat):Int):=by rw [IntWalk.i64_in _ oMx];omega
 clear hsk hok hlow hb5 hb6
 go_enter Tryz.func33,Tryz.ntmps33
 go_wp2_with fail;generalize w.alloc (.cells #[.slice (some ⟨b5,off5,none⟩) at1.length ca,.slice (some ⟨b6,off6,none⟩) rs.length cr,.slice af fs.length cf,.int .i64 lb] 31)=wy at *
 go_loopw [7,19] (fun v iv wr=>∃ (rel:Nat) (D:List Tbl),iv = .int .i64 (rel:Int)/\rel<=rs.length/\zCo zOf w.heap.size wr v D/\D.length=rel/\(∀ i,(hi:i<D.length)->zGi ⟨at1,some ⟨b5,off5,none⟩,ca,rs,some ⟨b6,off6,none⟩,cr,fs,af,cf,lb⟩ i D[i]/\D[i].length<=60/\∀ r∈D[i],1<=r.2/\r.2<=100)/\GS w b wr/\Blk wr w.heap.size 31 [.slice (some ⟨b5,off5,none⟩) at1.length ca,.slice (some ⟨b6,off6,none⟩) rs.length cr,.slice af fs.length cf,.int .i64 lb]) (fun _ iv _=>rs.length-(intOf iv).toNat)
 ·exact ⟨0,[],rfl,oLx,.nil _ _ _,rfl,(fun i hi=>by simp at hi),HGZ.out,HZ.out⟩
 clear HGZ HZ;obtain ⟨rel,D,rfl,hrl,hdo,hdl,hdk,hgs,hbs⟩:=hrel;obtain ⟨wo,hwo⟩:∃ wo:World,wo=wr:=⟨_,rfl⟩;subst hwo;obtain ⟨Ad,cd,rfl, -⟩:=hdo.form;have HDO:=oH hdo;have HDL:=oH hdl;have HDK:=oH hdk;have HGS:=oH hgs;have HBS:=oH hbs;have hszo:=hgs.gr.size;have HKO:=oH (hgs.sk HSKw.out);clear hdo hdk hgs hbs hdl
 by_cases hlt:rel<rs.length
 ·have hcs:=HXS.out rel hlt wo HKO.out;have hb6:=hcs.2.2.2;have q1:=hcs.2.1;have q2:=hcs.2.2.1;replace hFX:rs[rel].xs.length<=1000/\rs[rel].xs≠[]/\∀ j,j<rs[rel].xs.length->nth rs[rel].xs j<at1.length:=HFX.out rel hlt;obtain ⟨b7,off7,had,hb7, -⟩:=hcs.1 hFX.2.1;have HXR:=oH (fun (W:World) (h:SK W b ⟨at1,some ⟨b5,off5,none⟩,ca,rs,some ⟨b6,off6,none⟩,cr,fs,af,cf,lb⟩)=>(HXS.out rel hlt W h).1);rw [had] at q2 HXR;obtain ⟨xs,hxs⟩:=eXx (rs[rel].xs);obtain ⟨cpx,hcpx⟩:=eXx (rs[rel].cp);obtain ⟨nm,hnm⟩:=eXx (rs[rel].nm);have HXE:=oH hxs;rw [hxs,hcpx] at q2;rw [hnm] at q1;rw [hxs] at hFX HXR;obtain ⟨hx1,hx2,hx3⟩:=hFX;have HX3:=oH hx3;have hbz:Below wo.heap.size wo (wo.alloc (.cells #[.string nm,.slice (some ⟨b7,off7,none⟩) xs.length cpx] 68)):=bA;have HZR:=oH (show Blk (wo.alloc (.cells #[.string nm,.slice (some ⟨b7,off7,none⟩) xs.length cpx] 68)) wo.heap.size 68 [.string nm,.slice (some ⟨b7,off7,none⟩) xs.length cpx] from Blk.new wo _ [_,_])
  have HZG:=oH ((GS.refl HKO.src).all hbz);have HZB:=oH (HBS.below hbz);clear hxs hcpx hnm had hx2 hx3 hb7 hcs hbz;have HN:=oH (zCm b (max 1 ((most-1:Nat):Int)) _ HZG.src oMx oMx);go_wp2_with fail;refine HN.mono ?_;rintro e w1 ⟨r0,rfl,hr0,hs1,hg1⟩;have HG1:=oH (HZG.step hg1 hs1);have HB1:=oH (HZB.src hg1 oMx);have HR1:=oH (HZR.src hg1 oMx)
  have hr3:r0<=3:=by omega
  have hgk:IntKind.i64.wrap (2+(r0:Int))=((2+r0:Nat):Int):=by rw [IntWalk.i64_in _ oMx];omega
  have hgx0:w.heap.size<wo.heap.size:=HBS.lt;clear hr0 hs1 hg1 HN HZG HZB HZR q1 q2;go_wp2_with fail
  go_loopw [10,11] (fun v iv wm=>∃ (n:Nat) (L:Tbl),iv = .int .i64 (n:Int)/\zCo zOe wo.heap.size wm v L/\RawT ⟨at1,some ⟨b5,off5,none⟩,ca,rs,some ⟨b6,off6,none⟩,cr,fs,af,cf,lb⟩ rel 3 L/\L.length+n<=5/\GS wo b wm/\Blk wm w.heap.size 31 [.slice (some ⟨b5,off5,none⟩) at1.length ca,.slice (some ⟨b6,off6,none⟩) rs.length cr,.slice af fs.length cf,.int .i64 lb]/\Blk wm wo.heap.size 68 [.string nm,.slice (some ⟨b7,off7,none⟩) xs.length cpx]) (fun _ iv _=>(intOf iv).toNat)
  ·exact ⟨2+r0,[],rfl,.nil _ _ _,⟨hlt,(fun _ h=>by cases h),(fun _ h=>by cases h)⟩,by simp only [List.length_nil];omega,HG1.out,HB1.out,HR1.out⟩
  clear HG1 HB1 HR1 hgk;obtain ⟨n,L,rfl,hown,hraw,hln,hgs,hbs,hrs⟩:=hrel;obtain ⟨wm,hwm⟩:∃ wm:World,wm=wr:=⟨_,rfl⟩;subst hwm;obtain ⟨Av,cv,rfl, -⟩:=hown.form;have HOWN:=oH hown;have HRAW:=oH hraw;have HGM:=oH hgs;have HBM:=oH hbs;have HRM:=oH hrs;have hszm:=hgs.gr.size;have hrlt:wo.heap.size<wm.heap.size:=hrs.lt;clear hown hraw hgs hbs hrs
  by_cases hn:0<n
  ·have hd:=decide_eq_true hn;have hPB:Blk (wm.alloc (.cells #[.int .i64 1,.int .i64 1,.int .i64 1,.int .i64 2,.int .i64 3] 3)) wm.heap.size 3 [.int .i64 1,.int .i64 1,.int .i64 1,.int .i64 2,.int .i64 3]:=Blk.new wm _ [_,_,_,_,_];have hba:Below wm.heap.size wm (wm.alloc (.cells #[.int .i64 1,.int .i64 1,.int .i64 1,.int .i64 2,.int .i64 3] 3)):=bA
   have HPK:=oH (zDn b wm.heap.size 5 (fun i=>[1,1,1,2,3].getD i 1) _ (HGM.all hba).src (fun i hi=>by
    have h4:i=0\/i=1\/i=2\/i=3\/i=4:=by omega
    rcases h4 with rfl|rfl|rfl|rfl|rfl<;>exact hPB.at_ rfl) oMx hPB.lt oMx oMx)
   have HGA:=oH (HGM.all hba);have HOA:=oH (HOWN.below hba);have HBA:=oH (HBM.below hba);have HRA:=oH (HRM.below hba);clear hPB hba HGM HOWN HBM HRM;go_wp2_with fail;refine HPK.mono ?_;rintro e w2 ⟨pi,hpi,rfl,hs2,hg2⟩;obtain ⟨z,hz⟩:∃ z:Int,[(1:Int),1,1,2,3].getD pi 1=z:=⟨_,rfl⟩
   have hz13:1<=z/\z<=3:=by
    rw [<-hz]
    have h4:pi=0\/pi=1\/pi=2\/pi=3\/pi=4:=by omega
    rcases h4 with rfl|rfl|rfl|rfl|rfl<;>decide
   rw [hz];have HG2:=oH (HGA.step hg2 hs2);have HO2:=oH (HOA.src HGA.src hg2 dCx);have HB2:=oH (HBA.src hg2 oMx);have HR2:=oH (HRA.src hg2 oMx);have HK2:=oH (HG2.sk HKO.out);have hbb:Below w2.heap.size w2 (w2.alloc (.cells #[.slice none 0 0,.int .i64 z] 64)):=bA
   have HZ2:=oH (show GS w2 b (w2.alloc (.cells #[.slice none 0 0,.int .i64 z] 64))/\Blk (w2.alloc (.cells #[.slice none 0 0,.int .i64 z] 64)) w.heap.size 31 [.slice (some ⟨b5,off5,none⟩) at1.length ca,.slice (some ⟨b6,off6,none⟩) rs.length cr,.slice af fs.length cf,.int .i64 lb]/\Blk (w2.alloc (.cells #[.slice none 0 0,.int .i64 z] 64)) wo.heap.size 68 [.string nm,.slice (some ⟨b7,off7,none⟩) xs.length cpx]/\Blk (w2.alloc (.cells #[.slice none 0 0,.int .i64 z] 64)) w2.heap.size 64 [.slice none 0 0,.int .i64 z] from
    ⟨(GS.refl hs2).all hbb,HB2.below hbb,HR2.below hbb,Blk.new w2 _ [_,_]⟩)
   have hgx:wo.heap.size<w2.heap.size:=HR2.lt;clear hz hbb hs2 hg2 hpi HPK HGA HOA HBA HRA;go_upto_region 10 with (fail);generalize w2.alloc (.cells #[.slice none 0 0,.int .i64 z] 64)=w3 at HZ2 ⊢;obtain ⟨hgs3,hbs3,hrs3,hgx3⟩:=HZ2.out;have q1:=hrs3.at_ (i:=1) rfl;have HG3:=oH hgs3;have HB3:=oH hbs3;have HR3:=oH hrs3;have HX30:=oH hgx3;clear hgs3 hbs3 hrs3 hgx3 HZ2;go_wp2_with fail;clear q1
   go_loopw [41] (fun iv wq=>∃ (j:Nat) (ks:List ByteArray) (vk:Value),iv = .int .i64 (j:Int)/\j<=xs.length/\zCo zOg w2.heap.size wq vk ks/\zCc at1 (xs.take j) ks/\Blk wq w2.heap.size 64 [vk,.int .i64 z]/\Blk wq w.heap.size 31 [.slice (some ⟨b5,off5,none⟩) at1.length ca,.slice (some ⟨b6,off6,none⟩) rs.length cr,.slice af fs.length cf,.int .i64 lb]/\Blk wq wo.heap.size 68 [.string nm,.slice (some ⟨b7,off7,none⟩) xs.length cpx]/\GS w2 b wq) (fun iv _=>xs.length-(intOf iv).toNat)
   ·exact ⟨0,[],_,rfl,oLx,.nil _ _ _,zCc.nil _ _,HX30.out,HB3.out,HR3.out,HG3.out⟩
   clear HG3 HB3 HR3 HX30;obtain ⟨j,ks,vk,rfl,hj,hkt,hkg,hxb,hsb,hrb,hgs⟩:=hrel
   have hkl:ks.length=j:=by rw [hkg.1,List.length_take];omega
   obtain ⟨Ak,ck,rfl, -⟩:=hkt.form;rw [hkl] at hkt hxb;have HKL:=oH hkl
   by_cases hlj:j<xs.length
   ·have hxj:=HX3.out j hlj;have hcs:=(HXR.out wr (hgs.sk HK2.out)).at1 hlj;have q1:=hcs.2;have hb7:=hcs.1;have HAT:=oH (HAT0.out (nth xs j) hxj);have HK3:Hid (at1[nth xs j].2=1\/at1[nth xs j].2=2\/at1[nth xs j].2=3):=oH (by have:=HWD.out _ (List.getElem_mem hxj);omega);have HPU:=oH (fun (s:ByteArray) (h:zBg at1[nth xs j].2 s)=>hkg.push hlj hxj h);generalize at1[nth xs j].1=an at *;generalize at1[nth xs j].2=ak at *;have HTz:=oH hkt;have HXz:=oH hxb;have HBz:=oH hsb;have HRz:=oH hrb;have GSz:=oH hgs;have HLEN:Hid (ks.length<=1000):=oH oMx;have hb5w:=xAi (hgs.sk HK2.out).mem.a (zHq (by intro e;subst e;simp at hxj));have hat:=HAT.out wr (hgs.sk HK2.out);have q2:=hat.1;have q3:=hat.2;have s0:=hsb.at_ (i:=0) rfl;have hbs0:w.heap.size<wr.heap.size:=hsb.lt;clear hcs hkg hkl hkt hxb hsb hrb hgs hat;generalize hxn:nth xs j=x at *;clear hxn;have HVL:=oH (zCj b an ak wr GSz.src HK3.out);go_wp2_with fail
    refine HVL.mono ?_;rintro e wa ⟨sv,rfl,hgood,hs,hg⟩;have HGD:=oH hgood;have GSa:=oH (GSz.step hg hs);have HTa:=oH (HTz.src GSz.src hg dCx);have HXa:=oH (HXz.src hg oMx);have HBa:=oH (HBz.src hg oMx);have HRa:=oH (HRz.src hg oMx);have HUC:=oH (HUS.out wa x (GSa.sk HK2.out));have t0:=HBa.at_ (i:=0) rfl;have t1:=HBa.at_ (i:=1) rfl;have t2:=HBa.at_ (i:=2) rfl;have t3:=HBa.at_ (i:=3) rfl;clear hgood hs hg q1 q2 q3 s0 HVL;go_wp2_with fail;refine HUC.mono ?_;rintro e wb ⟨Au,nu,cu,rfl,hbu⟩;have GSb:=oH (GSa.all hbu);have HTb:=oH (HTa.below hbu);have HXb:=oH (HXa.below hbu);have HBb:=oH (HBa.below hbu);have HRb:=oH (HRa.below hbu);clear hbu t0 t1 t2 t3 HUC GSa HTa HXa HBa HRa GSz HTz HXz HBz HRz
    by_cases hnu:1<nu
    ·have hdu:=decide_eq_true hnu;have HN3:=oH (zCm b 3 wb GSb.src oMx oMx);go_wp2_with fail;refine HN3.mono ?_;rintro e wc0 ⟨r3,rfl,hr3',hs3,hg3⟩;have GSv:=oH (GSb.step hg3 hs3);have HTv:=oH (HTb.src GSb.src hg3 dCx);have HXv:=oH (HXb.src hg3 oMx);have HBv:=oH (HBb.src hg3 oMx);have HRv:=oH (HRb.src hg3 oMx);clear hs3 hg3 HN3 hr3' GSb HTb HXb HBb HRb
     by_cases hr0:0<r3
     ·have hd3:=decide_eq_true hr0;have hat:=HAT.out wc0 (GSv.sk HK2.out);have q3:=hat.2;have s0:=HBv.at_ (i:=0) rfl;have hb5v:=xAi (GSv.sk HK2.out).mem.a (zHq (by intro e;subst e;simp at hxj));have hbs0:w.heap.size<wc0.heap.size:=HBv.lt;clear hat;have hal:Below wc0.heap.size wc0 (wc0.alloc (.cells #[.string ⟨#[]⟩,.string ⟨#[49]⟩,.string ⟨#[49]⟩,.string ⟨#[114,101,100]⟩] 9)):=bA;have HZZ:=oH (show GS w2 b _/\zCo zOg w2.heap.size _ (.slice Ak j ck) ks/\Blk _ w2.heap.size 64 [.slice Ak j ck,.int .i64 z]/\Blk _ w.heap.size 31 [.slice (some ⟨b5,off5,none⟩) at1.length ca,.slice (some ⟨b6,off6,none⟩) rs.length cr,.slice af fs.length cf,.int .i64 lb]/\Blk _ wo.heap.size 68 [.string nm,.slice (some ⟨b7,off7,none⟩) xs.length cpx] from ⟨GSv.all hal,HTv.below hal,HXv.below hal,HBv.below hal,HRv.below hal⟩);clear hal GSv HTv HXv HBv HRv
      have HG123:Hid (ak=1/\zBg ak ⟨#[49]⟩\/ak=2/\zBg ak ⟨#[49]⟩\/ak=3/\zBg ak ⟨#[114,101,100]⟩):=oH (by
       rcases HK3.out with rfl|rfl|rfl
       ·exact .inl ⟨rfl,good_r1⟩
       ·exact .inr (.inl ⟨rfl,good_r2⟩)
       exact .inr (.inr ⟨rfl,good_r3⟩))
      rcases HG123.out with ⟨rfl,hgv⟩|⟨rfl,hgv⟩|⟨rfl,hgv⟩
      all_goals
       have HGV:=oH hgv;clear hgv;go_upto_region 16 with (fail);generalize wc0.alloc (.cells #[.string ⟨#[]⟩,.string ⟨#[49]⟩,.string ⟨#[49]⟩,.string ⟨#[114,101,100]⟩] 9)=wv at HZZ ⊢;obtain ⟨hz1,hz2,hz3,hz4,hz5⟩:=HZZ.out;have GSv:=oH hz1;have HTv:=oH hz2;have HXv:=oH hz3;have HBv:=oH hz4;have HRv:=oH hz5;clear hz1 hz2 hz3 hz4 hz5 HZZ q3 s0;have xk:=HXv.at_ (i:=0) rfl;have xf:=HXv.fr 0
       go_wp2_with (at_builtin;refine xAn _ _ _ rfl rfl Tryz.underlying62 Tryz.kiTxt (HTv.alloc _) (Sl.new (K:=zOg) (x:=_) rfl rfl) (by have:=HLEN.out;simp only [List.length_singleton];omega) (by have:=GSv.gr.size;simp;omega) ?_)
       intro v' wc hap
       obtain ⟨An,cn,hv, -⟩:=hap.own.form;rw [List.length_append,List.length_singleton,HKL.out] at hv;subst hv;have HAP:=oH hap.own;have GSc:=oH ((GSv.all (bA)).bel (hap.bel bRx));have hxc:=(HXv.alloc _).app hap dCx;have HXc:=oH hxc;have HBc:=oH ((HBv.alloc _).app hap dCx);have HRc:=oH ((HRv.alloc _).app hap dCx);have yk:=hxc.at_ (i:=0) rfl;have yf:=hxc.fr 0;clear hap hxc xk xf;go_wp2_with fail;go_roundw
       ·exact ⟨j+1,ks++[_],_,by go_num,oMx,HAP.store HXc.out dCx,HPU.out _ HGV.out,HXc.set 0 _,HBc.far (by show w.heap.size≠w2.heap.size;omega) _,HRc.far (by show wo.heap.size≠w2.heap.size;omega) _,GSc.bel (bRx.setCell (p:=⟨w2.heap.size,0,none⟩) lRx _)⟩
       simp [intOf];omega
     have hd3:=decide_eq_false hr0;have xk:=HXv.at_ (i:=0) rfl;have xf:=HXv.fr 0
     go_wp2_with (at_builtin;refine xAn _ _ _ rfl rfl Tryz.underlying62 Tryz.kiTxt (HTv.alloc _) (Sl.new (K:=zOg) (x:=sv) rfl rfl) (by have:=HLEN.out;simp only [List.length_singleton];omega) (by have:=GSv.gr.size;simp;omega) ?_)
     intro v' wc hap
     obtain ⟨An,cn,hv, -⟩:=hap.own.form;rw [List.length_append,List.length_singleton,HKL.out] at hv;subst hv;have HAP:=oH hap.own;have GSc:=oH ((GSv.all (bA)).bel (hap.bel bRx));have hxc:=(HXv.alloc _).app hap dCx;have HXc:=oH hxc;have HBc:=oH ((HBv.alloc _).app hap dCx);have HRc:=oH ((HRv.alloc _).app hap dCx);have yk:=hxc.at_ (i:=0) rfl;have yf:=hxc.fr 0;clear hap hxc xk xf;go_wp2_with fail;go_roundw
     ·exact ⟨j+1,ks++[sv],_,by go_num,oMx,HAP.store HXc.out dCx,HPU.out sv HGD.out,HXc.set 0 _,HBc.far (by show w.heap.size≠w2.heap.size;omega) _,HRc.far (by show wo.heap.size≠w2.heap.size;omega) _,GSc.bel (bRx.setCell (p:=⟨w2.heap.size,0,none⟩) lRx _)⟩
     simp [intOf];omega
    have hdu:=decide_eq_false hnu;have GSv:=GSb;have HTv:=HTb;have HXv:=HXb;have HBv:=HBb;have HRv:=HRb;clear GSb HTb HXb HBb HRb;have xk:=HXv.at_ (i:=0) rfl;have xf:=HXv.fr 0
    go_wp2_with (at_builtin;refine xAn _ _ _ rfl rfl Tryz.underlying62 Tryz.kiTxt (HTv.alloc _) (Sl.new (K:=zOg) (x:=sv) rfl rfl) (by have:=HLEN.out;simp only [List.length_singleton];omega) (by have:=GSv.gr.size;simp;omega) ?_)
    intro v' wc hap
    obtain ⟨An,cn,hv, -⟩:=hap.own.form;rw [List.length_append,List.length_singleton,HKL.out] at hv;subst hv;have HAP:=oH hap.own;have GSc:=oH ((GSv.all (bA)).bel (hap.bel bRx));have hxc:=(HXv.alloc _).app hap dCx;have HXc:=oH hxc;have HBc:=oH ((HBv.alloc _).app hap dCx);have HRc:=oH ((HRv.alloc _).app hap dCx);have yk:=hxc.at_ (i:=0) rfl;have yf:=hxc.fr 0;clear hap hxc xk xf;go_wp2_with fail;go_roundw
    ·exact ⟨j+1,ks++[sv],_,by go_num,oMx,HAP.store HXc.out dCx,HPU.out sv HGD.out,HXc.set 0 _,HBc.far (by show w.heap.size≠w2.heap.size;omega) _,HRc.far (by show wo.heap.size≠w2.heap.size;omega) _,GSc.bel (bRx.setCell (p:=⟨w2.heap.size,0,none⟩) lRx _)⟩
    simp [intOf];omega
   obtain rfl:j=xs.length:=by omega
   have hkg2:zCc at1 rs[rel].xs ks:=by rw [List.take_length] at hkg;rw [HXE.out];exact hkg
   have hx0:=hxb.at_ (i:=0) rfl;have hx1':=hxb.at_ (i:=1) rfl;have HL:=oH (HO2.src HK2.src hgs.gr dCx);have HTT:Hid (Sl zOg wr (.slice Ak xs.length ck) ks):=oH hkt.sl;have HGR:=oH (HG2.step hgs.gr hgs.src);have HBXX:=oH hsb;have HRXX:=oH hrb;have HRW:=oH (HRAW.push hkg2 hz13)
   have hLL:L.length<=100:=by omega
   have hbw:w2.heap.size<wr.heap.size:=hxb.lt
   have hgn:IntKind.i64.wrap ((n:Int)-1)=((n-1:Nat):Int):=by rw [IntWalk.i64_in _ oMx];omega
   clear hkt hkg hxb hsb hrb hgs hkg2 hkl
   go_wp2_with (at_builtin;refine xAn _ _ _ rfl rfl Tryz.underlying43 Tryz.kiRow (HL.alloc _) (Sl.new (K:=zOe) (x:=(ks,z)) rfl ⟨_,rfl,HTT.out⟩) (by simp only [List.length_singleton];omega) (by simp;omega) ?_)
   intro v' w7 hap
   have HAP:Hid (zCo zOe wo.heap.size w7 v' (L++[(ks,z)])):=oH hap.own;have HG7:=oH ((HGR.all (bA)).bel (hap.bel bRx));have HB7:=oH ((HBXX.alloc _).app hap dCx);have HR7:=oH ((HRXX.alloc _).app hap dCx);clear hap;go_wp2_with fail;go_roundw
   ·exact ⟨n-1,L++[(ks,z)],rfl,HAP.out,HRW.out,by rw [List.length_append,List.length_singleton];omega,HG7.out,HB7.out,HR7.out⟩
   simp [intOf];omega
  obtain rfl:n=0:=by omega
  have HRS:=oH (zEp HOWN.sl (HRAW.lit HSO.out oMx oMx));have HRN:=oH (HRAW.norm (show L.length<=5 by omega));have HNL:Hid ((norm L).length<=60):=oH (by have:=zQo L;omega);go_wp2_with fail;refine HRS.mono ?_;rintro e w9 ⟨v9,rfl,ho,hb9⟩;obtain ⟨A9,c9,rfl, -⟩:=ho.form;have HN9:=oH ho.sl;have hg9:=HGM.all hb9;have HG9:=oH (HGS.step hg9.gr hg9.src);have HD9:=oH (HDO.src HKO.src hg9.gr dCx);have HB9:=oH (HBM.below hb9);have hsz9:=HG9.gr.size
  have hdl6:D.length<=100:=by have:=HDL.out;omega
  clear ho hb9 hg9;generalize norm L=N at *
  go_wp2_with (at_builtin;refine xAn _ _ _ rfl rfl Tryz.underlying34 Tryz.kiTab (HD9.alloc _) (Sl.new (K:=zOf) (x:=N) rfl ⟨_,rfl,HN9.out⟩) (by simp only [List.length_singleton];omega) (by simp;omega) ?_)
  intro v' w10 hap
  have HAP:Hid (zCo zOf w.heap.size w10 v' (D++[N])):=oH hap.own;have HG10:=oH ((HG9.all (bA)).bel (hap.bel bRx));have HB10:=oH ((HB9.alloc _).app hap dCx);clear hap;go_wp2_with fail;go_roundw
  ·exact ⟨rel+1,D++[N],by go_num,oMx,HAP.out,by rw [List.length_append,List.length_singleton,HDL.out],zWv HDK.out (by rw [HDL.out];exact ⟨HRN.tab,HNL.out,fun r hr=>by have:=HRN.pos r hr;omega⟩),HG10.out,HB10.out⟩
  simp [intOf];omega
 obtain rfl:rel=rs.length:=by omega
 go_wp2_with fail;go_ret
 exact ⟨_,D,rfl,HDO.out,⟨HDL.out,HDK.out⟩,HGS.src,HGS.gr⟩
end Go.Proofs.YtafflnognagadaaGreatDoor
