import Derived.Test.YtbjaplppalcmgaaGreatDoorZI
import Derived.Test.YtbjaplppalcmgaaGreatDoorZF
import Derived.Deep.DrawnRows
set_option maxHeartbeats 16000000
set_option maxRecDepth 100000
namespace Go.Proofs.YtbjaplppalcmgaaGreatDoor
open Go.RowKit
theorem zMx {s:ByteArray} {c:UInt8} {r:List UInt8} (h:s.data.toList=c::r):(s.extract 1 s.size).data.toList=r:=by
 rw [Lib.extract_data,h]
 have:s.size=r.length+1:=by
  have:=congrArg List.length h;rw [Array.length_toList] at this;exact this
 rw [this]
 simp
theorem xDj (r:List UInt8):Lib.trimPrefix (45::r) [45]=r:=by simp [Lib.trimPrefix,Lib.hasPrefix]
theorem xDk {c:UInt8} (r:List UInt8) (h:c≠45):Lib.trimPrefix (c::r) [45]=c::r:=by
 have h':(45==c)=false:=by simpa using Ne.symm h
 have:Lib.hasPrefix (c::r) [45]=false:=by simp [Lib.hasPrefix,List.isPrefixOf,h']
 rw [Lib.trimPrefix,this];simp
theorem zJa {c d:UInt8} (h:c≠d):((c.toNat:Int)==(d.toNat:Int))=false:=by
 rw [beq_eq_false_iff_ne]
 intro e
 exact h (UInt8.toNat_inj.1 oMx)
theorem zEz (l:List UInt8) (w:World) (hl:l.length<=140737488355328) :
  Calls Tryz.prog 115 #[.string ⟨l.toArray⟩] w fun e w'=>e = .returned (.bool (xEt l))/\Below w.heap.size w w':=by
 by_cases h0:l=[48]
 ·subst h0
  go_enter Tryz.func115,Tryz.ntmps115
  go_wp2_with fail;go_ret
  exact ⟨rfl,bRx⟩
 have hne:(l==[48])=false:=by simpa using h0
 have E:=oH (show xEt l=zSx (Lib.trimPrefix l [45]) by rw [xEt,hne,Bool.false_or]);obtain ⟨s,hs⟩:∃ s:ByteArray,s=⟨l.toArray⟩:=⟨_,rfl⟩;rw [<-hs]
 have hsd:s.data.toList=l:=by rw [hs]
 have hne':(s.toList==[48])=false:=by rw [Lib.toList_data,hsd];exact hne
 have hsz:s.size=l.length:=by rw [hs];simp [ByteArray.size]
 have HSD:=oH hsd
 have hss:s.size<=140737488355328:=by omega
 have HSZ:=oH hsz;clear hs hsd hsz hne h0
 go_enter Tryz.func115,Tryz.ntmps115
 go_upto_region 4 with (fail);obtain ⟨hb,hhb⟩:∃ hb:Bool,hb=(l.head? == some 45):=⟨_,rfl⟩;have HHB:=oH hhb;clear hhb
 go_cut [15] (fun v wc=>v = .bool hb/\w=wc)
 case first =>
  cases l with
  | nil =>
   have hb0:hb=false:=HHB.out;have hz:s.size=0:=HSZ.out
   have hz':¬0<s.size:=by omega
   subst hb0;clear hz;go_wp2_with fail
   go_meet
   exact ⟨rfl,rfl⟩
  | cons c r =>
   have hz':0<s.size:=by rw [HSZ.out];simp
   have hsc:s[0]=c:=by
    have:s.data.toList[0]'(by rw [HSD.out];simp)=c:=by simp [HSD.out]
    have h2:s.data[0]'hz'=c:=by simpa using this
    exact h2
   by_cases hc:c=45
   ·have hq:((s[0].toNat:Int)==45)=true:=by rw [hsc,hc];rfl
    have hb1:hb=true:=by rw [HHB.out,hc];rfl
    subst hb1;clear hsc;go_wp2_with fail
    go_meet
    exact ⟨rfl,rfl⟩
   have hq:((s[0].toNat:Int)==45)=false:=by rw [hsc];exact zJa hc
   have hb1:hb=false:=by rw [HHB.out];simpa using hc
   subst hb1;clear hsc;go_wp2_with fail
   go_meet
   exact ⟨rfl,rfl⟩
 case rest =>
  obtain ⟨rfl,rfl⟩:=hcut
  go_upto_if 15 with (fail)
  go_cut [3] (fun v wc=>∃ s':ByteArray,v = .string s'/\s'.data.toList=Lib.trimPrefix l [45]/\s'.size<=140737488355328/\w=wc)
  case first =>
   cases hb
   ·go_wp2_with fail
    go_meet
    refine ⟨s,rfl,?_,hss,rfl⟩;rw [HSD.out]
    cases l with
    | nil=>rfl
    | cons c r =>
     have h1:=HHB.out;rw [xDk];rintro rfl
     simp at h1
   cases l with
   | nil=>have h1:=HHB.out;simp at h1
   | cons c r =>
    have h1:=HHB.out
    have hc:c=45:=by simpa using h1.symm
    subst hc
    have hz':1<=s.size:=by rw [HSZ.out];simp
    have hex:=zMx HSD.out
    have hel:(s.extract 1 s.size).size<=140737488355328:=by
     have:=congrArg List.length hex;rw [Array.length_toList] at this;have h2:=HSZ.out
     show (s.extract 1 s.size).data.size<=_
     simp at h2
     omega
    have HEX:=oH hex;clear h1 hex;go_wp2_with fail
    go_meet
    exact ⟨_,rfl,by rw [xDj];exact HEX.out,hel,rfl⟩
  case rest =>
   obtain ⟨s',rfl,hm,hml,rfl⟩:=hcut;have HM:=oH hm;clear hm HSD HSZ hne' hss;generalize Lib.trimPrefix l [45]=m at *
   have hsz:s'.size=m.length:=by
    have:=congrArg List.length HM.out;rw [Array.length_toList] at this;exact this
   cases m with
   | nil =>
    have hz:((s'.size:Int)==0)=true:=by rw [hsz];rfl
    clear hsz;go_wp2_with fail;go_ret
    exact ⟨by rw [E.out];rfl,bRx⟩
   | cons c r =>
    have hz:((s'.size:Int)==0)=false:=by rw [hsz,beq_eq_false_iff_ne];simp;omega
    have hz0:0<s'.size:=by rw [hsz];simp
    have hsc:s'[0]=c:=by
     have:s'.data.toList[0]'(by rw [HM.out];simp)=c:=by simp [HM.out]
     have h2:s'.data[0]'hz0=c:=by simpa using this
     exact h2
    by_cases hlen:(c::r).length<=400
    ·have hs4:¬400<s'.size:=by rw [hsz];omega
     have hs4':decide (400<(s'.size:Int))=false:=decide_eq_false oMx
     by_cases hc:c=48
     ·have hc':((s'[0].toNat:Int)==48)=true:=by rw [hsc,hc];rfl
      have E2:=oH (show zSx (c::r)=false by simp [zSx,hc]);clear hsc hsz hc hlen;go_wp2_with fail;go_ret
      exact ⟨by rw [E.out,E2.out];rfl,bRx⟩
     have hc':((s'[0].toNat:Int)==48)=false:=by rw [hsc];exact zJa hc
     have E2:=oH (show zSx (c::r)=s'.data.toList.all zMc by rw [HM.out,zSx];simp only [hlen];simp [hc]);have HL:=oH (show s'.data.toList.length=s'.size from Array.length_toList);clear hsc hsz hc hlen;go_wp2_with fail
     go_loop [4] (fun ix=>∃ k:Nat,k<=s'.size/\ix = .int .i64 (k:Int)/\(s'.data.toList.take k).all zMc=true) (fun ix=>s'.size-(intOf ix).toNat)
     ·exact ⟨0,oLx,rfl,rfl⟩
     obtain ⟨k,hk,rfl,hall⟩:=hrel;have HALL:=oH hall;clear hall hc'
     by_cases hlt:k<s'.size
     ·have hts:s'.data.toList.take (k+1)=s'.data.toList.take k++[s'[k]]:=by
       rw [List.take_succ_eq_append_getElem (by rw [HL.out];exact hlt)];rfl
      have HTS:=oH hts;have hd256:s'[k].toNat<256:=s'[k].toNat_lt;clear hts
      by_cases hdig:zMc s'[k]=true
      ·have hdd:=(zMd s'[k]).1 hdig;unfold zBn at hdd;obtain ⟨hd1,hd2⟩:=hdd;have HDG:=oH hdig;clear hdig;go_wp2_with fail
       go_round
       ·exact ⟨k+1,oMx,by go_num,by rw [HTS.out,List.all_append,HALL.out];simp [HDG.out]⟩
       simp [intOf];omega
      have hnd:¬(48<=s'[k].toNat/\s'[k].toNat<=57):=fun h=>hdig ((zMd _).2 h)
      have E3:=oH (show s'.data.toList.all zMc=false by
       rw [<-Bool.not_eq_true,zHu]
       intro hh
       apply hdig
       rw [zMd]
       apply hh
       have:s'[k]=s'.data.toList[k]'(by rw [HL.out];exact hlt):=rfl;rw [this]
       exact List.getElem_mem _)
      clear hdig
      by_cases hd1:s'[k].toNat<48
      ·go_wp2_with fail;go_ret
       exact ⟨by rw [E.out,E2.out,E3.out];rfl,bRx⟩
      have hd2:57<s'[k].toNat:=by omega
      go_wp2_with fail;go_ret
      exact ⟨by rw [E.out,E2.out,E3.out];rfl,bRx⟩
     obtain rfl:k=s'.size:=by omega
     have E3:=oH (show s'.data.toList.all zMc=true by have:=HALL.out;rwa [<-HL.out,List.take_length] at this);go_wp2_with fail;go_ret
     exact ⟨by rw [E.out,E2.out,E3.out];rfl,bRx⟩
    have hs4:400<s'.size:=by rw [hsz];omega
    have hs4':decide (400<(s'.size:Int))=true:=decide_eq_true oMx;have E2:=oH (show zSx (c::r)=false by rw [zSx];simp only [hlen];simp);clear hsz hsc hlen;go_wp2_with fail;go_ret
    exact ⟨by rw [E.out,E2.out];rfl,bRx⟩
end Go.Proofs.YtbjaplppalcmgaaGreatDoor
namespace Go.Proofs.YtbjaplppalcmgaaGreatDoor
open Go.RowKit
theorem xCr {ds:List UInt8} {K i:Nat} (h:i<ds.length) (hK:K<=i):(ds.take (i+1)).drop K=(ds.take i).drop K++[ds[i]]:=by
 rw [List.take_succ_eq_append_getElem h,List.drop_append_of_le_length (by rw [List.length_take];omega)]
theorem zKu {ds:List UInt8} (hd:zAn ds) {K i:Nat} (h:i<=K+9):zKp ((ds.take i).drop K)<1000000000:=by
 have h1:=zKt ((hd.take i).drop K);refine Nat.lt_of_lt_of_le h1 ?_
 have h2:((ds.take i).drop K).length<=9:=by rw [List.length_drop,List.length_take];omega
 exact Nat.le_trans (Nat.pow_le_pow_right oMx h2) oMx
theorem RRead_f (x:Int) (w:World) (hl:(Lib.decDigits x.natAbs).length<=1000000) :
  Calls Tryz.prog 87 #[.string (str x)] w (zFl w x):=by
 have HSG:=oH (zZg x);obtain ⟨i0,hi,hz0,hz1,hz2⟩:=info_parts Tryz.infoInt
 have hsd:(str x).data.toList=Lib.itoa x:=by unfold str;simp
 have hpe:=zPd x;generalize str x=s at *
 have hit:Lib.itoa x=if decide (x<0)=true then 45::Lib.decDigits x.natAbs else Lib.decDigits x.natAbs:=by
  unfold Lib.itoa
  by_cases h:x<0
  ·simp [h]
  simp [h];congr 1;omega
 rw [hit] at hsd;generalize decide (x<0)=na at *;generalize hxn:x.natAbs=n at *;have hdp:=Lib.nDigits_pos n;rw [<-Lib.decDigits_length] at hdp;have HDG:=oH (zKg n)
 have hsz:s.size=(if na=true then 1 else 0)+(Lib.decDigits n).length:=by
  have:=congrArg List.length hsd;rw [Array.length_toList] at this;have h2:s.size=s.data.size:=rfl;rw [h2,this]
  cases na<;>simp;omega
 have hs1:0<s.size:=by omega
 have hs2:s.size<=1000001:=by split at hsz<;>omega
 have hse:¬s.toList=[]:=by
  rw [Lib.toList_data,hsd]
  cases na
  ·exact zKl n
  simp
 have hse':s.toList.isEmpty=false:=by simpa using hse
 have HSD:=oH hsd;have HSZ:=oH hsz;clear hsd hsz hpe hit hxn
 go_enter Tryz.func87,Tryz.ntmps87
 go_upto_region 3 with (fail);have hb0:=Blk.new (w.alloc (.cells #[.bool false,.slice none 0 0] 85)) 85 [.bool false,.slice none 0 0];rw [World.size_alloc] at hb0;have hr0:=(Blk.new w 85 [.bool false,.slice none 0 0]).alloc (.cells #[.bool false,.slice none 0 0] 85);have hbel:Below w.heap.size w ((w.alloc (.cells #[.bool false,.slice none 0 0] 85)).alloc (.cells #[.bool false,.slice none 0 0] 85)):=(bA).alloc sMx _
 have hs0:w.heap.size+2<=((w.alloc (.cells #[.bool false,.slice none 0 0] 85)).alloc (.cells #[.bool false,.slice none 0 0] 85)).heap.size:=by simp
 generalize (w.alloc (.cells #[.bool false,.slice none 0 0] 85)).alloc (.cells #[.bool false,.slice none 0 0] 85)=W at *;have HB0:=oH hb0;have HR0:=oH hr0;have HBEL0:=oH hbel;have c0:W.cell? ⟨w.heap.size+1,0,none⟩=some (.bool false):=hb0.at_ rfl;have f0:=hb0.fr 0;clear hb0 hr0 hbel
 go_cut [16] (fun v wc=>v = .bool na/\W=wc)
 case first =>
  cases na
  ·have hq:((s[0].toNat:Int)==45)=false:=by
    have h1:s[0]=(Lib.decDigits n)[0]'oMx:=by
     have h2:s.data.toList[0]'(by rw [HSD.out];simp;omega)=(Lib.decDigits n)[0]'oMx:=by simp [HSD.out]
     have h3:s.data[0]'hs1=(Lib.decDigits n)[0]'oMx:=by simpa using h2
     exact h3
    have h4:zBn s[0]:=by rw [h1];exact HDG.out _ (List.getElem_mem _)
    unfold zBn at h4;rw [beq_eq_false_iff_ne];omega
   go_wp2_with fail
   go_meet
   exact ⟨rfl,rfl⟩
  have hq:((s[0].toNat:Int)==45)=true:=by
   have h1:s[0]=45:=by
    have h2:s.data.toList[0]'(by rw [HSD.out];simp)=45:=by simp [HSD.out]
    have h3:s.data[0]'hs1=45:=by simpa using h2
    exact h3
   rw [h1];rfl
  go_wp2_with fail
  go_meet
  exact ⟨rfl,rfl⟩
 case rest =>
  obtain ⟨rfl,rfl⟩:=hcut
  go_upto_if 16 with (fail)
  go_cut [3] (fun v wc=>∃ s':ByteArray,v = .string s'/\s'.data.toList=Lib.decDigits n/\Blk wc w.heap.size 85 [.bool false,.slice none 0 0]/\Blk wc (w.heap.size+1) 85 [.bool na,.slice none 0 0]/\Below w.heap.size w wc/\w.heap.size+2<=wc.heap.size)
  case first =>
   cases na
   ·go_wp2_with fail
    go_meet
    exact ⟨s,rfl,HSD.out,HR0.out,HB0.out,HBEL0.out,hs0⟩
   have hz':1<=s.size:=by omega
   have hex:=zMx (c:=45) (r:=Lib.decDigits n) HSD.out;have HEX:=oH hex;clear hex;go_wp2_with fail
   go_region
   all_goals
    go_wp2_with fail
    go_meet
    exact ⟨_,rfl,HEX.out,HR0.far (p:=⟨w.heap.size+1,0,none⟩) (by show w.heap.size≠w.heap.size+1;omega) _,HB0.set 0 _,(HBEL0.setCell (p:=⟨w.heap.size+1,0,none⟩) (Nat.le_succ _) _).drew,by simpa [World.setCell] using hs0⟩
  case rest =>
   obtain ⟨s',rfl,hm,hr,hk,hbel,hsc⟩:=hcut;have HM:=oH hm;have HR:=oH hr;have HK:=oH hk;have HBEL:=oH hbel;clear hm hr hk hbel HB0 HR0 HBEL0 c0 f0 hs0 hse hse' HSD HSZ hs1 hs2;go_wp2_with fail
   go_loopw [3] (fun sv wr=>∃ (k:Nat) (sk:ByteArray) (v:Value),sv = .string sk/\sk.data.toList=(Lib.decDigits n).take ((Lib.decDigits n).length-9*k)/\9*k<(Lib.decDigits n).length+9/\wr.ownsRow (w.heap.size+2) 3 1 v (zPq n k).length (vn (zPq n k))/\Blk wr w.heap.size 85 [.bool false,.slice none 0 0]/\Blk wr (w.heap.size+1) 85 [.bool na,v]/\Below w.heap.size w wr/\w.heap.size+2<=wr.heap.size) (fun sv _=>match sv with | .string s=>s.size|_=>0)
   ·exact ⟨0,s',.slice none 0 0,rfl,by rw [HM.out];simp,oMx,World.ownsRow_nil _ _ _ _,HR.out,HK.out,HBEL.out,hsc⟩
   obtain ⟨k,sk,v,rfl,hsk,hk9,hown,hr,hkb,hbel,hsz⟩:=hrel;clear HR HK HBEL HM hsc;have HSK:=oH hsk;have HOWN:=oH hown;have HR:=oH hr;have HK:=oH hkb;have HBEL:=oH hbel;have hv1:wr.cell? ⟨w.heap.size+1,1,none⟩=some v:=hkb.at_ rfl;have hv0:wr.cell? ⟨w.heap.size+1,0,none⟩=some (.bool na):=hkb.at_ rfl;have hvf:=hkb.fr 1
   have hsks:sk.size=(Lib.decDigits n).length-9*k:=by
    have:=congrArg List.length hsk;rw [Array.length_toList,List.length_take] at this;have h2:sk.size=sk.data.size:=rfl;omega
   have hskl:sk.size<=1000000:=by omega
   have HSKS:=oH hsks;have HLL:=oH (zPr n k)
   have hkl:(zPq n k).length<=1000000:=by rw [zPr];omega
   clear hsk hown hr hkb hbel hsks
   by_cases hpos:0<sk.size
   ·obtain ⟨K,hK⟩:∃ K,K=sk.size-9:=⟨_,rfl⟩;have HKK:=oH hK
    have hKs:K<=sk.size:=by omega
    clear hK;go_upto_region 6 with (fail)
    go_cut [5] (fun v wc=>v = .int .i64 (K:Int)/\wr=wc)
    case first =>
     have hK:=HKK.out;go_wp2_with fail
     all_goals
      go_meet
      exact ⟨congrArg (Value.int .i64) oMx,rfl⟩
    case rest =>
     obtain ⟨rfl,rfl⟩:=hcut
     have HDS:Hid (zAn sk.data.toList):=by rw [HSK.out];exact HDG.take _
     have HLS:=oH (show sk.data.toList.length=sk.size from Array.length_toList)
     have hK9:sk.size<=K+9:=by have:=HKK.out;omega
     go_wp2_with fail
     go_loop [6,7] (fun nv iv=>∃ (m i:Nat),nv = .int .i64 (m:Int)/\iv = .int .i64 (i:Int)/\K<=i/\i<=sk.size/\m=zKp ((sk.data.toList.take i).drop K)) (fun _ iv=>sk.size-(intOf iv).toNat)
     ·exact ⟨0,K,rfl,rfl,lRx,hKs,by rw [List.drop_eq_nil_of_le (by rw [List.length_take];omega)];rfl⟩
     obtain ⟨m,i,rfl,rfl,hKi,his,hm⟩:=hrel;have HMV:=oH hm
     have hm9:m<1000000000:=by rw [hm];exact zKu HDS.out oMx
     clear hm
     by_cases hlt:i<sk.size
     ·have hdig:zBn sk[i]:=HDS.out _ (by
       have:sk[i]=sk.data.toList[i]'(by rw [HLS.out];exact hlt):=rfl;rw [this]
       exact List.getElem_mem _)
      unfold zBn at hdig;obtain ⟨hd1,hd2⟩:=hdig
      have HN2:Hid (10*m+(sk[i].toNat-48)=zKp ((sk.data.toList.take (i+1)).drop K)):=by
       rw [xCr (by rw [HLS.out];exact hlt) hKi,zKw,HMV.out]
       rfl
      go_wp2_with fail
      go_round
      ·exact ⟨10*m+(sk[i].toNat-48),i+1,congrArg (Value.int .i64) oMx,by go_num,oMx,oMx,HN2.out⟩
      simp [intOf];omega
     obtain rfl:i=sk.size:=by omega
     have hmv:m=n/1000000000^k%1000000000:=by
      rw [HMV.out,List.take_of_length_le (by rw [HLS.out];omega),HSK.out,HKK.out,HSKS.out];exact zJj n k (by have:=HSKS.out;omega)
     have HMM:=oH hmv;clear hmv
     go_wp2_with (at_builtin;refine wpList_append_own _ rfl _ _ 22 rfl (w.heap.size+2) 3 i0 (.int .i64 0) 1 8 Tryz.underlying22 hi hz0 hz1 hz2 rfl dCx _ _ _ rfl (HOWN.alloc _) ⟨wr.heap.size,0,none⟩ 1 1 [_] rfl rfl zTu zTs (by unfold maxLen;omega) oMx (by simp;omega) ?_)
     intro v' w1 hown1 hgrow1 _
     obtain ⟨ho1,hb1,hs1,hk1⟩:=zUt HOWN.out hsz HBEL.out oMx hown1 hgrow1 (x:=m) rfl;rw [HMM.out,<-zPt] at ho1;obtain ⟨gn,capn,rfl, -, -⟩:=ho1.form (by rw [zPr];omega);have HO1:=oH ho1;have HB1:=oH hb1;have HK1:=oH (hk1 _ _ _ oMx HK.out);have HR1:=oH (hk1 _ _ _ oMx HR.out);have hc1:w1.cell? ⟨w.heap.size+1,1,none⟩=some v:=HK1.at_ rfl;have hc1f:=HK1.fr 1;clear hown1 hgrow1 ho1 hb1 hk1
     have hed:(sk.extract 0 K).data.toList=sk.data.toList.take K:=by rw [Lib.extract_data];simp
     have hes:(sk.extract 0 K).size=K:=by
      have:=congrArg List.length hed;rw [Array.length_toList,List.length_take,HLS.out] at this;have h2:(sk.extract 0 K).size=(sk.extract 0 K).data.size:=rfl;omega
     have HED:=oH hed;have HES:=oH hes;clear hed hes;go_wp2_with fail;go_roundw
     case rel =>
      refine ⟨k+1,_,_,rfl,?_,by have:=HSKS.out;omega,ownsRow_setCell_below HO1.out (a:=⟨w.heap.size+1,1,none⟩) (by show w.heap.size+1<w.heap.size+2;omega) _,HR1.far (p:=⟨w.heap.size+1,1,none⟩) (by show w.heap.size≠w.heap.size+1;omega) _,HK1.set 1 _,HB1.setCell (p:=⟨w.heap.size+1,1,none⟩) (Nat.le_succ _) _,by simpa [World.setCell] using hs1⟩;rw [HED.out,HSK.out,List.take_take]
      congr 1
      have:=HKK.out;have:=HSKS.out;omega
     case measure =>
      show (sk.extract 0 K).size<sk.size
      rw [HES.out];have:=HKK.out;omega
   have hnk:n<1000000000^k:=zQv (by have:=HSKS.out;omega);obtain ⟨A,c,rfl,hlc,hcc,hfr⟩:=zUv HOWN.out
   have hvv:val (zPq n k)=n:=by rw [zPv,Nat.mod_eq_of_lt hnk]
   have HTR:=oH (rtrim_A na A (zPq n k) n c wr hcc hlc (zPs n k) hvv oMx);have HFR:=oH hfr;clear hnk hvv hcc hfr;go_wp2_with fail;refine HTR.mono ?_;rintro e w3 ⟨c3,rfl,hl3,hs3,hb3⟩;have HR3:=oH (HR.below hb3);have HB3:=bTx2 HBEL hb3;have HS3:=oH hs3;have hr0:w3.cell? ⟨w.heap.size,0,none⟩=some (.bool false):=HR3.at_ rfl;have hr1:w3.cell? ⟨w.heap.size,1,none⟩=some (.slice none 0 0):=HR3.at_ rfl;have hg0:=HR3.fr 0;have hg1:=HR3.fr 1;clear hb3 hs3 HTR;go_wp2_with fail;refine bodyPost_ret (v := .agg #[.bool (decide (zZc na n<0)),.slice A (limbs (zZc na n).natAbs).length c3]) (by simp [results,Tryz.results87,go_sem,hr0,hr1]) rfl ?_;exact zIs HR3.out HB3.out lRx HS3.out hl3 HSG.out (fun b off e=>Nat.le_trans (Nat.le_add_right _ 2) (HFR.out b off e))
theorem zEt (x:Int) (w:World) (hl:(Lib.decDigits x.natAbs).length<=1000000) :
  Calls Tryz.prog 87 #[.string (str x)] w (zFm w x):=(RRead_f x w hl).mono fun _ _ h=>h.n
end Go.Proofs.YtbjaplppalcmgaaGreatDoor
namespace Go.Proofs.YtbjaplppalcmgaaGreatDoor
open Go.RowKit
theorem fits_iff (x:Int):Fits x↔Lib.nDigits x.natAbs<=400:=by unfold Fits;rw [Lib.decDigits_length]
theorem zEd (u:Value) (x:Int) (w:World) (hx:zBm w u x) (hlx:(limbs x.natAbs).length<=1000000) :
  Calls Tryz.prog 94 #[u] w fun e w'=>e = .returned (.tuple #[.string (outS x),.int .i64 (outE x)])/\Below w.heap.size w w':=by
 have HX:=oH hx;obtain ⟨A,c,rfl,hlc,hc⟩:=hx;have HFIT:=oH (fits_iff x);generalize decide (x<0)=na at *;have hbw:Hid (Below w.heap.size w (w.alloc (.cells #[.bool na,.slice A (limbs x.natAbs).length c] 85))):=bA;have HD:=oH (zDi _ x _ (HX.below hbw.out) oMx);have HBOX:=oH (Blk.new w 85 [.bool na,.slice A (limbs x.natAbs).length c]);clear hc
 by_cases hf:Fits x
 ·have hd:=HFIT.1 hf;have E1:=oH (zUh hf);have E2:=oH (zTz hf);clear hf
  go_enter Tryz.func94,Tryz.ntmps94
  go_wp2_with fail;generalize w.alloc (.cells #[.bool na,.slice A (limbs x.natAbs).length c] 85)=W at *;refine HD.mono ?_;rintro e w2 ⟨rfl,hb2⟩;have HB2:=bTx2 hbw hb2;have hk:=HBOX.below hb2;have h0:w2.cell? ⟨w.heap.size,0,none⟩=some (.bool na):=hk.at_ rfl;have h1:w2.cell? ⟨w.heap.size,1,none⟩=some (.slice A (limbs x.natAbs).length c):=hk.at_ rfl;have HS:=oH (zEy _ x w2 (HX.below HB2.out) hlx);clear hb2 hk HD;go_wp2_with fail;refine HS.mono ?_;rintro e w3 ⟨rfl,hb3⟩;have HB3:=bTx2 HB2 hb3;clear hb3;go_wp2_with fail;go_ret2
  exact ⟨by rw [E1.out,E2.out];rfl,HB3.out⟩
 have hd:¬Lib.nDigits x.natAbs<=400:=fun h=>hf (HFIT.2 h)
 have E1:=oH (show outS x=⟨#[]⟩ from if_neg hf);have E2:=oH (show outE x=3 from if_neg hf);clear hf
 go_enter Tryz.func94,Tryz.ntmps94
 go_wp2_with fail;refine HD.mono ?_;rintro e w2 ⟨rfl,hb2⟩;have HB2:=bTx2 hbw hb2;clear hb2 HD;go_wp2_with fail;go_ret2
 exact ⟨by rw [E1.out,E2.out];rfl,HB2.out⟩
theorem zQn {n:Int} (h0 : -9223372036854775808<=n) (h1:n<=9223372036854775807):(limbs n.natAbs).length<=3:=zQb oMx
theorem RMake_ok (n:Int) (w:World) (h0 : -9223372036854775808<=n) (h1:n<=9223372036854775807):Calls Tryz.prog 60 #[.int .i64 n] w fun e w'=>e = .returned (.string (str n))/\Below w.heap.size w w':=by
 have HO:=oH (zEm n w h0 h1);have hl:=zQn h0 h1;clear h0 h1
 go_enter Tryz.func60,Tryz.ntmps60
 go_wp2_with fail;refine HO.mono ?_;rintro e w1 ⟨v1,rfl,hv1,hb1⟩;have HT:=oH (zEy v1 n w1 hv1 oMx);have HB1:=oH hb1;clear hv1 hb1 HO;go_wp2_with fail;refine HT.mono ?_;rintro e w2 ⟨rfl,hb2⟩;have HB2:=bTx2 HB1 hb2;clear hb2;go_wp2_with fail;go_ret
 exact ⟨rfl,HB2.out⟩
theorem zFa (x:Int) (w:World) (hf:Fits x):Calls Tryz.prog 115 #[.string (str x)] w fun e w'=>e = .returned (.bool true)/\Below w.heap.size w w':=by
 have:=zEz (Lib.itoa x) w (by have:=zOy x;unfold Fits at hf;omega);rw [xFh hf] at this;exact this
theorem xBp (x:Int):(str x).toList=Lib.itoa x:=by rw [Lib.toList_data];unfold str;simp
theorem xBo (x:Int):(str x).size=(Lib.itoa x).length:=by unfold str;simp [ByteArray.size]
end Go.Proofs.YtbjaplppalcmgaaGreatDoor
namespace Go.Proofs.YtbjaplppalcmgaaGreatDoor
open Go.RowKit
structure R2 (w W:World):Prop where
 k0:Blk W w.heap.size 85 [.bool false,.slice none 0 0]
 k1:Blk W (w.heap.size+1) 85 [.bool false,.slice none 0 0]
 bel:Below w.heap.size w W
end Go.Proofs.YtbjaplppalcmgaaGreatDoor
namespace Go.Proofs.YtbjaplppalcmgaaGreatDoor
open Go.RowKit
theorem zBm.drew {w:World} {v:Value} {z:Int} (h:zBm w v z):zBm w.drew v z:=h
structure D3 (w W:World) (g8 g10:Nat) (b8 b10 b11:Bool) (s8 s10 s11:Value):Prop where
 k8:Blk W (g8+1) 85 [.bool b8,s8]
 k10:Blk W g10 85 [.bool b10,s10]
 k11:Blk W (g10+1) 85 [.bool b11,s11]
 bel:Below w.heap.size w W
 lo:w.heap.size<=g8
 mid:g8+1<g10
section
variable {w W W':World} {g8 g10:Nat} {b8 b10 b11:Bool} {s8 s10 s11:Value}
abbrev Six (W:World) (g8 g10:Nat) (b8 b10 b11:Bool) (s8 s10 s11:Value):Prop :=
 W.cell? ⟨g8+1,0,none⟩=some (.bool b8)/\W.cell? ⟨g8+1,1,none⟩=some s8/\W.cell? ⟨g10,0,none⟩=some (.bool b10)/\W.cell? ⟨g10,1,none⟩=some s10/\W.cell? ⟨g10+1,0,none⟩=some (.bool b11)/\W.cell? ⟨g10+1,1,none⟩=some s11
end
def DEnd (w:World) (g:Nat) (Q R:Int) (wc:World):Prop:=∃ (Aq Ar:oAx) (cq cr:Nat),Blk wc g 85 [.bool (decide (Q<0)),.slice Aq (limbs Q.natAbs).length cq]/\Blk wc (g+1) 85 [.bool (decide (R<0)),.slice Ar (limbs R.natAbs).length cr]/\zBm wc (.agg #[.bool (decide (Q<0)),.slice Aq (limbs Q.natAbs).length cq]) Q/\zBm wc (.agg #[.bool (decide (R<0)),.slice Ar (limbs R.natAbs).length cr]) R/\Below w.heap.size w wc
attribute [local go_sem ↓] Go.wp_at_zero Go.wp_at_succ
end Go.Proofs.YtbjaplppalcmgaaGreatDoor
namespace Go.Proofs.YtbjaplppalcmgaaGreatDoor
open Go.RowKit
end Go.Proofs.YtbjaplppalcmgaaGreatDoor
