import Derived.Test.YtafflnognagadaaGreatDoorZI
import Derived.Test.YtafflnognagadaaGreatDoorZF
set_option maxHeartbeats 16000000
set_option maxRecDepth 100000
namespace Go.Proofs.YtafflnognagadaaGreatDoor
open Go.RowKit
theorem zMa {s:ByteArray} {c:UInt8} {r:List UInt8} (h:s.data.toList=c::r):(s.extract 1 s.size).data.toList=r:=by
 rw [Lib.extract_data,h]
 have:s.size=r.length+1:=by
  have:=congrArg List.length h;rw [Array.length_toList] at this;exact this
 rw [this]
 simp
theorem zXq (r:List UInt8):Lib.trimPrefix (45::r) [45]=r:=by simp [Lib.trimPrefix,Lib.hasPrefix]
theorem zXr {c:UInt8} (r:List UInt8) (h:c≠45):Lib.trimPrefix (c::r) [45]=c::r:=by
 have h':(45==c)=false:=by simpa using Ne.symm h
 have:Lib.hasPrefix (c::r) [45]=false:=by simp [Lib.hasPrefix,List.isPrefixOf,h']
 rw [Lib.trimPrefix,this];simp
theorem zJb {c d:UInt8} (h:c≠d):((c.toNat:Int)==(d.toNat:Int))=false:=by
 rw [beq_eq_false_iff_ne]
 intro e
 exact h (UInt8.toNat_inj.1 oMx)
theorem zEt (l:List UInt8) (w:World) (hl:l.length<=140737488355328) :
  Calls Tryz.prog 99 #[.string ⟨l.toArray⟩] w fun e w'=>e = .returned (.bool (zYx l))/\Below w.heap.size w w':=by
 by_cases h0:l=[48]
 ·subst h0
  go_enter Tryz.func99,Tryz.ntmps99
  go_wp2_with fail;go_ret
  exact ⟨rfl,bRx⟩
 have hne:(l==[48])=false:=by simpa using h0
 have E:=oH (show zYx l=zRc (Lib.trimPrefix l [45]) by rw [zYx,hne,Bool.false_or]);obtain ⟨s,hs⟩:∃ s:ByteArray,s=⟨l.toArray⟩:=⟨_,rfl⟩;rw [<-hs]
 have hsd:s.data.toList=l:=by rw [hs]
 have hne':(s.toList==[48])=false:=by rw [Lib.toList_data,hsd];exact hne
 have hsz:s.size=l.length:=by rw [hs];simp [ByteArray.size]
 have HSD:=oH hsd
 have hss:s.size<=140737488355328:=by omega
 have HSZ:=oH hsz;clear hs hsd hsz hne h0
 go_enter Tryz.func99,Tryz.ntmps99
 go_upto_region 4 with (fail);obtain ⟨hb,hhb⟩:∃ hb:Bool,hb=(l.head? == some 45):=⟨_,rfl⟩;have HHB:=oH hhb;clear hhb
 go_cut [15] (fun v wc=>v = .bool hb/\w=wc)
 case first =>
  cases l with
  | nil =>
   have hb0:hb=false:=HHB.out;have hz:s.size=0:=HSZ.out
   have hz':¬0<s.size:=by omega
   subst hb0;clear hz;go_wp2_with fail
   go_meet
   exact ⟨rfl,rfl⟩
  | cons c r =>
   have hz':0<s.size:=by rw [HSZ.out];simp
   have hsc:s[0]=c:=by
    have:s.data.toList[0]'(by rw [HSD.out];simp)=c:=by simp [HSD.out]
    have h2:s.data[0]'hz'=c:=by simpa using this
    exact h2
   by_cases hc:c=45
   ·have hq:((s[0].toNat:Int)==45)=true:=by rw [hsc,hc];rfl
    have hb1:hb=true:=by rw [HHB.out,hc];rfl
    subst hb1;clear hsc;go_wp2_with fail
    go_meet
    exact ⟨rfl,rfl⟩
   have hq:((s[0].toNat:Int)==45)=false:=by rw [hsc];exact zJb hc
   have hb1:hb=false:=by rw [HHB.out];simpa using hc
   subst hb1;clear hsc;go_wp2_with fail
   go_meet
   exact ⟨rfl,rfl⟩
 case rest =>
  obtain ⟨rfl,rfl⟩:=hcut
  go_upto_if 15 with (fail)
  go_cut [3] (fun v wc=>∃ s':ByteArray,v = .string s'/\s'.data.toList=Lib.trimPrefix l [45]/\s'.size<=140737488355328/\w=wc)
  case first =>
   cases hb
   ·go_wp2_with fail
    go_meet
    refine ⟨s,rfl,?_,hss,rfl⟩;rw [HSD.out]
    cases l with
    | nil=>rfl
    | cons c r =>
     have h1:=HHB.out;rw [zXr];rintro rfl
     simp at h1
   cases l with
   | nil=>have h1:=HHB.out;simp at h1
   | cons c r =>
    have h1:=HHB.out
    have hc:c=45:=by simpa using h1.symm
    subst hc
    have hz':1<=s.size:=by rw [HSZ.out];simp
    have hex:=zMa HSD.out
    have hel:(s.extract 1 s.size).size<=140737488355328:=by
     have:=congrArg List.length hex;rw [Array.length_toList] at this;have h2:=HSZ.out
     show (s.extract 1 s.size).data.size<=_
     simp at h2
     omega
    have HEX:=oH hex;clear h1 hex;go_wp2_with fail
    go_meet
    exact ⟨_,rfl,by rw [zXq];exact HEX.out,hel,rfl⟩
  case rest =>
   obtain ⟨s',rfl,hm,hml,rfl⟩:=hcut;have HM:=oH hm;clear hm HSD HSZ hne' hss;generalize Lib.trimPrefix l [45]=m at *
   have hsz:s'.size=m.length:=by
    have:=congrArg List.length HM.out;rw [Array.length_toList] at this;exact this
   cases m with
   | nil =>
    have hz:((s'.size:Int)==0)=true:=by rw [hsz];rfl
    clear hsz;go_wp2_with fail;go_ret
    exact ⟨by rw [E.out];rfl,bRx⟩
   | cons c r =>
    have hz:((s'.size:Int)==0)=false:=by rw [hsz,beq_eq_false_iff_ne];simp;omega
    have hz0:0<s'.size:=by rw [hsz];simp
    have hsc:s'[0]=c:=by
     have:s'.data.toList[0]'(by rw [HM.out];simp)=c:=by simp [HM.out]
     have h2:s'.data[0]'hz0=c:=by simpa using this
     exact h2
    by_cases hlen:(c::r).length<=400
    ·have hs4:¬400<s'.size:=by rw [hsz];omega
     have hs4':decide (400<(s'.size:Int))=false:=decide_eq_false oMx
     by_cases hc:c=48
     ·have hc':((s'[0].toNat:Int)==48)=true:=by rw [hsc,hc];rfl
      have E2:=oH (show zRc (c::r)=false by simp [zRc,hc]);clear hsc hsz hc hlen;go_wp2_with fail;go_ret
      exact ⟨by rw [E.out,E2.out];rfl,bRx⟩
     have hc':((s'[0].toNat:Int)==48)=false:=by rw [hsc];exact zJb hc
     have E2:=oH (show zRc (c::r)=s'.data.toList.all zLf by rw [HM.out,zRc];simp only [hlen];simp [hc]);have HL:=oH (show s'.data.toList.length=s'.size from Array.length_toList);clear hsc hsz hc hlen;go_wp2_with fail
     go_loop [4] (fun ix=>∃ k:Nat,k<=s'.size/\ix = .int .i64 (k:Int)/\(s'.data.toList.take k).all zLf=true) (fun ix=>s'.size-(intOf ix).toNat)
     ·exact ⟨0,oLx,rfl,rfl⟩
     obtain ⟨k,hk,rfl,hall⟩:=hrel;have HALL:=oH hall;clear hall hc'
     by_cases hlt:k<s'.size
     ·have hts:s'.data.toList.take (k+1)=s'.data.toList.take k++[s'[k]]:=by
       rw [List.take_succ_eq_append_getElem (by rw [HL.out];exact hlt)];rfl
      have HTS:=oH hts;have hd256:s'[k].toNat<256:=s'[k].toNat_lt;clear hts
      by_cases hdig:zLf s'[k]=true
      ·have hdd:=(zLg s'[k]).1 hdig;unfold zBu at hdd;obtain ⟨hd1,hd2⟩:=hdd;have HDG:=oH hdig;clear hdig;go_wp2_with fail
       go_round
       ·exact ⟨k+1,oMx,by go_num,by rw [HTS.out,List.all_append,HALL.out];simp [HDG.out]⟩
       simp [intOf];omega
      have hnd:¬(48<=s'[k].toNat/\s'[k].toNat<=57):=fun h=>hdig ((zLg _).2 h)
      have E3:=oH (show s'.data.toList.all zLf=false by
       rw [<-Bool.not_eq_true,zHa]
       intro hh
       apply hdig
       rw [zLg]
       apply hh
       have:s'[k]=s'.data.toList[k]'(by rw [HL.out];exact hlt):=rfl;rw [this]
       exact List.getElem_mem _)
      clear hdig
      by_cases hd1:s'[k].toNat<48
      ·go_wp2_with fail;go_ret
       exact ⟨by rw [E.out,E2.out,E3.out];rfl,bRx⟩
      have hd2:57<s'[k].toNat:=by omega
      go_wp2_with fail;go_ret
      exact ⟨by rw [E.out,E2.out,E3.out];rfl,bRx⟩
     obtain rfl:k=s'.size:=by omega
     have E3:=oH (show s'.data.toList.all zLf=true by have:=HALL.out;rwa [<-HL.out,List.take_length] at this);go_wp2_with fail;go_ret
     exact ⟨by rw [E.out,E2.out,E3.out];rfl,bRx⟩
    have hs4:400<s'.size:=by rw [hsz];omega
    have hs4':decide (400<(s'.size:Int))=true:=decide_eq_true oMx;have E2:=oH (show zRc (c::r)=false by rw [zRc];simp only [hlen];simp);clear hsz hsc hlen;go_wp2_with fail;go_ret
    exact ⟨by rw [E.out,E2.out];rfl,bRx⟩
end Go.Proofs.YtafflnognagadaaGreatDoor
namespace Go.Proofs.YtafflnognagadaaGreatDoor
open Go.RowKit
theorem zXa {ds:List UInt8} {K i:Nat} (h:i<ds.length) (hK:K<=i):(ds.take (i+1)).drop K=(ds.take i).drop K++[ds[i]]:=by
 rw [List.take_succ_eq_append_getElem h,List.drop_append_of_le_length (by rw [List.length_take];omega)]
theorem zKz {ds:List UInt8} (hd:zAw ds) {K i:Nat} (h:i<=K+9):zKu ((ds.take i).drop K)<1000000000:=by
 have h1:=zKy ((hd.take i).drop K);refine Nat.lt_of_lt_of_le h1 ?_
 have h2:((ds.take i).drop K).length<=9:=by rw [List.length_drop,List.length_take];omega
 exact Nat.le_trans (Nat.pow_le_pow_right oMx h2) oMx
theorem RRead_f (x:Int) (w:World) (hl:(Lib.decDigits x.natAbs).length<=1000000) :
  Calls Tryz.prog 100 #[.string (str x)] w (zFh w x):=by
 have HSG:=oH (zVi x);obtain ⟨i0,hi,hz0,hz1,hz2⟩:=info_parts Tryz.infoInt
 have hsd:(str x).data.toList=Lib.itoa x:=by unfold str;simp
 have hpe:=zNz x;generalize str x=s at *
 have hit:Lib.itoa x=if decide (x<0)=true then 45::Lib.decDigits x.natAbs else Lib.decDigits x.natAbs:=by
  unfold Lib.itoa
  by_cases h:x<0
  ·simp [h]
  simp [h];congr 1;omega
 rw [hit] at hsd;generalize decide (x<0)=na at *;generalize hxn:x.natAbs=n at *;have hdp:=Lib.nDigits_pos n;rw [<-Lib.decDigits_length] at hdp;have HDG:=oH (zKo n)
 have hsz:s.size=(if na=true then 1 else 0)+(Lib.decDigits n).length:=by
  have:=congrArg List.length hsd;rw [Array.length_toList] at this;have h2:s.size=s.data.size:=rfl;rw [h2,this]
  cases na<;>simp;omega
 have hs1:0<s.size:=by omega
 have hs2:s.size<=1000001:=by split at hsz<;>omega
 have hse:¬s.toList=[]:=by
  rw [Lib.toList_data,hsd]
  cases na
  ·exact zKr n
  simp
 have hse':s.toList.isEmpty=false:=by simpa using hse
 have HSD:=oH hsd;have HSZ:=oH hsz;clear hsd hsz hpe hit hxn
 go_enter Tryz.func100,Tryz.ntmps100
 go_upto_region 3 with (fail);have hb0:=Blk.new (w.alloc (.cells #[.bool false,.slice none 0 0] 133)) 133 [.bool false,.slice none 0 0];rw [World.size_alloc] at hb0;have hr0:=(Blk.new w 133 [.bool false,.slice none 0 0]).alloc (.cells #[.bool false,.slice none 0 0] 133);have hbel:Below w.heap.size w ((w.alloc (.cells #[.bool false,.slice none 0 0] 133)).alloc (.cells #[.bool false,.slice none 0 0] 133)):=(bA).alloc sMx _
 have hs0:w.heap.size+2<=((w.alloc (.cells #[.bool false,.slice none 0 0] 133)).alloc (.cells #[.bool false,.slice none 0 0] 133)).heap.size:=by simp
 generalize (w.alloc (.cells #[.bool false,.slice none 0 0] 133)).alloc (.cells #[.bool false,.slice none 0 0] 133)=W at *;have HB0:=oH hb0;have HR0:=oH hr0;have HBEL0:=oH hbel;have c0:W.cell? ⟨w.heap.size+1,0,none⟩=some (.bool false):=hb0.at_ rfl;have f0:=hb0.fr 0;clear hb0 hr0 hbel
 go_cut [16] (fun v wc=>v = .bool na/\W=wc)
 case first =>
  cases na
  ·have hq:((s[0].toNat:Int)==45)=false:=by
    have h1:s[0]=(Lib.decDigits n)[0]'oMx:=by
     have h2:s.data.toList[0]'(by rw [HSD.out];simp;omega)=(Lib.decDigits n)[0]'oMx:=by simp [HSD.out]
     have h3:s.data[0]'hs1=(Lib.decDigits n)[0]'oMx:=by simpa using h2
     exact h3
    have h4:zBu s[0]:=by rw [h1];exact HDG.out _ (List.getElem_mem _)
    unfold zBu at h4;rw [beq_eq_false_iff_ne];omega
   go_wp2_with fail
   go_meet
   exact ⟨rfl,rfl⟩
  have hq:((s[0].toNat:Int)==45)=true:=by
   have h1:s[0]=45:=by
    have h2:s.data.toList[0]'(by rw [HSD.out];simp)=45:=by simp [HSD.out]
    have h3:s.data[0]'hs1=45:=by simpa using h2
    exact h3
   rw [h1];rfl
  go_wp2_with fail
  go_meet
  exact ⟨rfl,rfl⟩
 case rest =>
  obtain ⟨rfl,rfl⟩:=hcut
  go_upto_if 16 with (fail)
  go_cut [3] (fun v wc=>∃ s':ByteArray,v = .string s'/\s'.data.toList=Lib.decDigits n/\Blk wc w.heap.size 133 [.bool false,.slice none 0 0]/\Blk wc (w.heap.size+1) 133 [.bool na,.slice none 0 0]/\Below w.heap.size w wc/\w.heap.size+2<=wc.heap.size)
  case first =>
   cases na
   ·go_wp2_with fail
    go_meet
    exact ⟨s,rfl,HSD.out,HR0.out,HB0.out,HBEL0.out,hs0⟩
   have hz':1<=s.size:=by omega
   have hex:=zMa (c:=45) (r:=Lib.decDigits n) HSD.out;have HEX:=oH hex;clear hex;go_wp2_with fail
   go_region
   all_goals
    go_wp2_with fail
    go_meet
    exact ⟨_,rfl,HEX.out,HR0.far (p:=⟨w.heap.size+1,0,none⟩) (by show w.heap.size≠w.heap.size+1;omega) _,HB0.set 0 _,(HBEL0.setCell (p:=⟨w.heap.size+1,0,none⟩) (Nat.le_succ _) _).drew,by simpa [World.setCell] using hs0⟩
  case rest =>
   obtain ⟨s',rfl,hm,hr,hk,hbel,hsc⟩:=hcut;have HM:=oH hm;have HR:=oH hr;have HK:=oH hk;have HBEL:=oH hbel;clear hm hr hk hbel HB0 HR0 HBEL0 c0 f0 hs0 hse hse' HSD HSZ hs1 hs2;go_wp2_with fail
   go_loopw [3] (fun sv wr=>∃ (k:Nat) (sk:ByteArray) (v:Value),sv = .string sk/\sk.data.toList=(Lib.decDigits n).take ((Lib.decDigits n).length-9*k)/\9*k<(Lib.decDigits n).length+9/\wr.ownsRow (w.heap.size+2) 3 1 v (zOq n k).length (vn (zOq n k))/\Blk wr w.heap.size 133 [.bool false,.slice none 0 0]/\Blk wr (w.heap.size+1) 133 [.bool na,v]/\Below w.heap.size w wr/\w.heap.size+2<=wr.heap.size) (fun sv _=>match sv with | .string s=>s.size|_=>0)
   ·exact ⟨0,s',.slice none 0 0,rfl,by rw [HM.out];simp,oMx,World.ownsRow_nil _ _ _ _,HR.out,HK.out,HBEL.out,hsc⟩
   obtain ⟨k,sk,v,rfl,hsk,hk9,hown,hr,hkb,hbel,hsz⟩:=hrel;clear HR HK HBEL HM hsc;have HSK:=oH hsk;have HOWN:=oH hown;have HR:=oH hr;have HK:=oH hkb;have HBEL:=oH hbel;have hv1:wr.cell? ⟨w.heap.size+1,1,none⟩=some v:=hkb.at_ rfl;have hv0:wr.cell? ⟨w.heap.size+1,0,none⟩=some (.bool na):=hkb.at_ rfl;have hvf:=hkb.fr 1
   have hsks:sk.size=(Lib.decDigits n).length-9*k:=by
    have:=congrArg List.length hsk;rw [Array.length_toList,List.length_take] at this;have h2:sk.size=sk.data.size:=rfl;omega
   have hskl:sk.size<=1000000:=by omega
   have HSKS:=oH hsks;have HLL:=oH (zOr n k)
   have hkl:(zOq n k).length<=1000000:=by rw [zOr];omega
   clear hsk hown hr hkb hbel hsks
   by_cases hpos:0<sk.size
   ·obtain ⟨K,hK⟩:∃ K,K=sk.size-9:=⟨_,rfl⟩;have HKK:=oH hK
    have hKs:K<=sk.size:=by omega
    clear hK;go_upto_region 6 with (fail)
    go_cut [5] (fun v wc=>v = .int .i64 (K:Int)/\wr=wc)
    case first =>
     have hK:=HKK.out;go_wp2_with fail
     all_goals
      go_meet
      exact ⟨congrArg (Value.int .i64) oMx,rfl⟩
    case rest =>
     obtain ⟨rfl,rfl⟩:=hcut
     have HDS:Hid (zAw sk.data.toList):=by rw [HSK.out];exact HDG.take _
     have HLS:=oH (show sk.data.toList.length=sk.size from Array.length_toList)
     have hK9:sk.size<=K+9:=by have:=HKK.out;omega
     go_wp2_with fail
     go_loop [6,7] (fun nv iv=>∃ (m i:Nat),nv = .int .i64 (m:Int)/\iv = .int .i64 (i:Int)/\K<=i/\i<=sk.size/\m=zKu ((sk.data.toList.take i).drop K)) (fun _ iv=>sk.size-(intOf iv).toNat)
     ·exact ⟨0,K,rfl,rfl,lRx,hKs,by rw [List.drop_eq_nil_of_le (by rw [List.length_take];omega)];rfl⟩
     obtain ⟨m,i,rfl,rfl,hKi,his,hm⟩:=hrel;have HMV:=oH hm
     have hm9:m<1000000000:=by rw [hm];exact zKz HDS.out oMx
     clear hm
     by_cases hlt:i<sk.size
     ·have hdig:zBu sk[i]:=HDS.out _ (by
       have:sk[i]=sk.data.toList[i]'(by rw [HLS.out];exact hlt):=rfl;rw [this]
       exact List.getElem_mem _)
      unfold zBu at hdig;obtain ⟨hd1,hd2⟩:=hdig
      have HN2:Hid (10*m+(sk[i].toNat-48)=zKu ((sk.data.toList.take (i+1)).drop K)):=by
       rw [zXa (by rw [HLS.out];exact hlt) hKi,zLb,HMV.out]
       rfl
      go_wp2_with fail
      go_round
      ·exact ⟨10*m+(sk[i].toNat-48),i+1,congrArg (Value.int .i64) oMx,by go_num,oMx,oMx,HN2.out⟩
      simp [intOf];omega
     obtain rfl:i=sk.size:=by omega
     have hmv:m=n/1000000000^k%1000000000:=by
      rw [HMV.out,List.take_of_length_le (by rw [HLS.out];omega),HSK.out,HKK.out,HSKS.out];exact zJt n k (by have:=HSKS.out;omega)
     have HMM:=oH hmv;clear hmv
     go_wp2_with (at_builtin;refine wpList_append_own _ rfl _ _ 22 rfl (w.heap.size+2) 3 i0 (.int .i64 0) 1 8 Tryz.underlying22 hi hz0 hz1 hz2 rfl dCx _ _ _ rfl (HOWN.alloc _) ⟨wr.heap.size,0,none⟩ 1 1 [_] rfl rfl zRj zRh (by unfold maxLen;omega) oMx (by simp;omega) ?_)
     intro v' w1 hown1 hgrow1 _
     obtain ⟨ho1,hb1,hs1,hk1⟩:=zSb HOWN.out hsz HBEL.out oMx hown1 hgrow1 (x:=m) rfl;rw [HMM.out,<-zOt] at ho1;obtain ⟨gn,capn,rfl, -, -⟩:=ho1.form (by rw [zOr];omega);have HO1:=oH ho1;have HB1:=oH hb1;have HK1:=oH (hk1 _ _ _ oMx HK.out);have HR1:=oH (hk1 _ _ _ oMx HR.out);have hc1:w1.cell? ⟨w.heap.size+1,1,none⟩=some v:=HK1.at_ rfl;have hc1f:=HK1.fr 1;clear hown1 hgrow1 ho1 hb1 hk1
     have hed:(sk.extract 0 K).data.toList=sk.data.toList.take K:=by rw [Lib.extract_data];simp
     have hes:(sk.extract 0 K).size=K:=by
      have:=congrArg List.length hed;rw [Array.length_toList,List.length_take,HLS.out] at this;have h2:(sk.extract 0 K).size=(sk.extract 0 K).data.size:=rfl;omega
     have HED:=oH hed;have HES:=oH hes;clear hed hes;go_wp2_with fail;go_roundw
     case rel =>
      refine ⟨k+1,_,_,rfl,?_,by have:=HSKS.out;omega,ownsRow_setCell_below HO1.out (a:=⟨w.heap.size+1,1,none⟩) (by show w.heap.size+1<w.heap.size+2;omega) _,HR1.far (p:=⟨w.heap.size+1,1,none⟩) (by show w.heap.size≠w.heap.size+1;omega) _,HK1.set 1 _,HB1.setCell (p:=⟨w.heap.size+1,1,none⟩) (Nat.le_succ _) _,by simpa [World.setCell] using hs1⟩;rw [HED.out,HSK.out,List.take_take]
      congr 1
      have:=HKK.out;have:=HSKS.out;omega
     case measure =>
      show (sk.extract 0 K).size<sk.size
      rw [HES.out];have:=HKK.out;omega
   have hnk:n<1000000000^k:=zPt (by have:=HSKS.out;omega);obtain ⟨A,c,rfl,hlc,hcc,hfr⟩:=zSd HOWN.out
   have hvv:val (zOq n k)=n:=by rw [zOv,Nat.mod_eq_of_lt hnk]
   have HTR:=oH (rtrim_A na A (zOq n k) n c wr hcc hlc (zOs n k) hvv oMx);have HFR:=oH hfr;clear hnk hvv hcc hfr;go_wp2_with fail;refine HTR.mono ?_;rintro e w3 ⟨c3,rfl,hl3,hs3,hb3⟩;have HR3:=oH (HR.below hb3);have HB3:=bTx2 HBEL hb3;have HS3:=oH hs3;have hr0:w3.cell? ⟨w.heap.size,0,none⟩=some (.bool false):=HR3.at_ rfl;have hr1:w3.cell? ⟨w.heap.size,1,none⟩=some (.slice none 0 0):=HR3.at_ rfl;have hg0:=HR3.fr 0;have hg1:=HR3.fr 1;clear hb3 hs3 HTR;go_wp2_with fail;refine bodyPost_ret (v := .agg #[.bool (decide (zVe na n<0)),.slice A (limbs (zVe na n).natAbs).length c3]) (by simp [results,Tryz.results100,go_sem,hr0,hr1]) rfl ?_;exact zIb HR3.out HB3.out lRx HS3.out hl3 HSG.out (fun b off e=>Nat.le_trans (Nat.le_add_right _ 2) (HFR.out b off e))
theorem zEh (x:Int) (w:World) (hl:(Lib.decDigits x.natAbs).length<=1000000) :
  Calls Tryz.prog 100 #[.string (str x)] w (zFi w x):=(RRead_f x w hl).mono fun _ _ h=>h.n
end Go.Proofs.YtafflnognagadaaGreatDoor
namespace Go.Proofs.YtafflnognagadaaGreatDoor
open Go.RowKit
theorem zEu (x:Int) (w:World) (hf:Fits x):Calls Tryz.prog 99 #[.string (str x)] w fun e w'=>e = .returned (.bool true)/\Below w.heap.size w w':=by
 have:=zEt (Lib.itoa x) w (by have:=zNu x;unfold Fits at hf;omega);rw [zZl hf] at this;exact this
theorem zWq (x:Int):(str x).toList=Lib.itoa x:=by rw [Lib.toList_data];unfold str;simp
theorem zWp (x:Int):(str x).size=(Lib.itoa x).length:=by unfold str;simp [ByteArray.size]
end Go.Proofs.YtafflnognagadaaGreatDoor
namespace Go.Proofs.YtafflnognagadaaGreatDoor
open Go.RowKit
structure R2 (w W:World):Prop where
 k0:Blk W w.heap.size 133 [.bool false,.slice none 0 0]
 k1:Blk W (w.heap.size+1) 133 [.bool false,.slice none 0 0]
 bel:Below w.heap.size w W
end Go.Proofs.YtafflnognagadaaGreatDoor
namespace Go.Proofs.YtafflnognagadaaGreatDoor
open Go.RowKit
structure D3 (w W:World) (g8 g10:Nat) (b8 b10 b11:Bool) (s8 s10 s11:Value):Prop where
 k8:Blk W (g8+1) 133 [.bool b8,s8]
 k10:Blk W g10 133 [.bool b10,s10]
 k11:Blk W (g10+1) 133 [.bool b11,s11]
 bel:Below w.heap.size w W
 lo:w.heap.size<=g8
 mid:g8+1<g10
section
variable {w W W':World} {g8 g10:Nat} {b8 b10 b11:Bool} {s8 s10 s11:Value}
abbrev Six (W:World) (g8 g10:Nat) (b8 b10 b11:Bool) (s8 s10 s11:Value):Prop :=
 W.cell? ⟨g8+1,0,none⟩=some (.bool b8)/\W.cell? ⟨g8+1,1,none⟩=some s8/\W.cell? ⟨g10,0,none⟩=some (.bool b10)/\W.cell? ⟨g10,1,none⟩=some s10/\W.cell? ⟨g10+1,0,none⟩=some (.bool b11)/\W.cell? ⟨g10+1,1,none⟩=some s11
end
def DEnd (w:World) (g:Nat) (Q R:Int) (wc:World):Prop:=∃ (Aq Ar:oAx) (cq cr:Nat),Blk wc g 133 [.bool (decide (Q<0)),.slice Aq (limbs Q.natAbs).length cq]/\Blk wc (g+1) 133 [.bool (decide (R<0)),.slice Ar (limbs R.natAbs).length cr]/\zBt wc (.agg #[.bool (decide (Q<0)),.slice Aq (limbs Q.natAbs).length cq]) Q/\zBt wc (.agg #[.bool (decide (R<0)),.slice Ar (limbs R.natAbs).length cr]) R/\Below w.heap.size w wc
attribute [local go_sem ↓] Go.wp_at_zero Go.wp_at_succ
end Go.Proofs.YtafflnognagadaaGreatDoor
namespace Go.Proofs.YtafflnognagadaaGreatDoor
open Go.RowKit
theorem zYi (n k:Nat):val ((limbs n).drop k)<=n:=by
 have h:=zYp (limbs n) k;rw [zYj] at h;have h1:1*val ((limbs n).drop k)<=1000000000^(min k (limbs n).length)*val ((limbs n).drop k):=Nat.mul_le_mul_right _ (pow_pos' _);omega
theorem zEo (x:Int) (w:World) (hf:Fits x):Calls Tryz.prog 89 #[.string (str x)] w fun e w'=>e = .returned (.tuple #[.int .i64 (zVs x),.bool (zVr x)])/\Below w.heap.size w w':=by
 have HF:=oH hf;have hlen:=hf.len
 have hdx:(Lib.decDigits x.natAbs).length<=1000000:=by unfold Fits at hf;omega
 have hlm:(limbs (4611686018427387904:Int).natAbs).length<=10:=zPb oMx;have HMOST:=oH (fun W=>ROf_any 4611686018427387904 W oMx oMx);generalize hmost:(4611686018427387904:Int)=most at hlm HMOST;have HME:=oH hmost;clear hf hmost
 go_enter Tryz.func89,Tryz.ntmps89
 go_wp2_with fail;refine (zEu x w HF.out).mono ?_;rintro e w1 ⟨rfl,hb1⟩;have HB1:=oH hb1;clear hb1;go_wp2_with fail;refine (zEh x w1 hdx).mono ?_;rintro e w2 ⟨v2,rfl,⟨A,c,rfl,hlc,hc⟩,hb2⟩;have HB2:=bTx2 HB1 hb2;generalize hna:decide (x<0)=na at *;have HNA:=oH hna;have HC:=oH hc;have HW:Hid (Below w2.heap.size w2 (w2.alloc (.cells #[.bool na,.slice A (limbs x.natAbs).length c] 133))):=bA;have HK:=oH (Blk.new w2 133 [.bool na,.slice A (limbs x.natAbs).length c]);clear hb2 hc hna;go_wp2_with fail;generalize w2.alloc (.cells #[.bool na,.slice A (limbs x.natAbs).length c] 133)=W2 at *;have hcall:=HMOST.out W2;rw [HME.symm] at hcall;refine hcall.mono ?_;clear hcall;rw [HME.out];rintro e w3 ⟨v3,rfl,⟨A3,c3,rfl,hlc3,hc3⟩,hb3⟩;have HC2:=oH ((HC.below HW.out).below hb3);have HK3:=oH (HK.below hb3);have HB3:=oH ((HB2.trans (HW.mono HB2.size)).trans (hb3.mono (Nat.le_trans HB2.size HW.size)));have HC3:=oH hc3
 generalize decide (most<0)=nm at *;have HW3:Hid (Below w3.heap.size w3 (w3.alloc (.cells #[.bool nm,.slice A3 (limbs most.natAbs).length c3] 133))):=bA;have HK5:=oH (Blk.new w3 133 [.bool nm,.slice A3 (limbs most.natAbs).length c3]);clear hc3 hb3;go_upto_region 5 with (fail);generalize w3.alloc (.cells #[.bool nm,.slice A3 (limbs most.natAbs).length c3] 133)=W3 at *;have HK4:=oH (HK3.below HW3.out);have h40:W3.cell? ⟨w2.heap.size,0,none⟩=some (.bool na):=HK4.at_ rfl;have h41:W3.cell? ⟨w2.heap.size,1,none⟩=some (.slice A (limbs x.natAbs).length c):=HK4.at_ rfl;have h51:W3.cell? ⟨w3.heap.size,1,none⟩=some (.slice A3 (limbs most.natAbs).length c3):=HK5.at_ rfl;go_wp2_with fail;refine (zUa A A3 x.natAbs most.natAbs c c3 W3 (HC2.below HW3.out) (HC3.below HW3.out) oMx oMx).mono ?_;rintro e w4 ⟨rfl,hb4⟩;have HB4:=oH ((HB3.trans (HW3.mono HB3.size)).trans (hb4.mono (Nat.le_trans HB3.size HW3.size)))
 have HC4:=oH ((HC2.below HW3.out).below hb4);have HK44:=oH (HK4.below hb4);clear hb4 h40 h41 h51;have h40:w4.cell? ⟨w2.heap.size,0,none⟩=some (.bool na):=HK44.at_ rfl;have h41:w4.cell? ⟨w2.heap.size,1,none⟩=some (.slice A (limbs x.natAbs).length c):=HK44.at_ rfl
 have hma:most.natAbs=4611686018427387904:=by rw [<-HME.out];rfl
 by_cases hb:x.natAbs<=4611686018427387904
 ·have E1:=oH (show zVs x=x by unfold zVs;rw [if_pos hb]);have E2:=oH (show zVr x=true by unfold zVr;exact decide_eq_true hb)
  obtain ⟨cm,hcm,hcm0⟩:∃ cm:Int,cm=zJx x.natAbs most.natAbs/\¬0<cm:=⟨_,rfl,by
   rw [hma]
   rcases Nat.lt_or_eq_of_le hb with h|h
   ·rw [zKa h];omega
   rw [zJy h];omega⟩
  rw [<-hcm];have HBB:=oH hb
  have HVL:Hid (∀ k,(val ((limbs x.natAbs).drop k):Int)<=4611686018427387904):=fun k=>by have:=zYi x.natAbs k;omega
  have HLA:=oH (show ∀ i,nth (limbs x.natAbs) i<1000000000 from (Low.limbs _).nth);clear hcm hma hb;go_wp2_with fail
  go_loop [6,7] (fun nv iv=>∃ (k:Nat) (m:Nat),k<=(limbs x.natAbs).length/\iv = .int .i64 ((k:Int)-1)/\nv = .int .i64 (m:Int)/\m=val ((limbs x.natAbs).drop k)) (fun _ iv=>(intOf iv+1).toNat)
  ·exact ⟨(limbs x.natAbs).length,0,lRx,rfl,rfl,by rw [List.drop_length];rfl⟩
  obtain ⟨k,m,hk,rfl,rfl,hm⟩:=hrel;have HM:=oH hm;clear hm
  rcases Nat.eq_zero_or_pos k with h0|h0
  ·subst h0
   have hmx:m=x.natAbs:=by rw [HM.out,List.drop_zero,zYj]
   have hmb:(m:Int)<=4611686018427387904:=by rw [HM.out];exact HVL.out 0
   have HMX:=oH hmx;clear hmx
   cases na
   ·have hxx:(m:Int)=x:=by
     have h1:¬x<0:=by simpa using HNA.out
     have:=HMX.out;omega
    have HXX:=oH hxx;clear hxx;go_wp2_with fail;go_ret2
    exact ⟨by rw [E1.out,E2.out,<-HXX.out];rfl,HB4.out⟩
   have hxx : -(m:Int)=x:=by
    have h1:x<0:=by simpa using HNA.out
    have:=HMX.out;omega
   have HXX:=oH hxx;clear hxx;go_wp2_with fail;go_ret2
   exact ⟨by rw [E1.out,E2.out,<-HXX.out];rfl,HB4.out⟩
  obtain ⟨j,rfl⟩:∃ j,k=j+1:=⟨k-1,oMx⟩;obtain ⟨g,off,eA,hg,hcl⟩:=HC4.out (by intro e;rw [e] at hk;simp at hk);subst eA;have hcell:=hcl j oMx;have hxj:=HLA.out j
  have hnew:((m*1000000000+nth (limbs x.natAbs) j:Nat):Int)<=4611686018427387904:=by
   have h1:=HVL.out j;rw [zYh,<-HM.out] at h1
   have e:m*1000000000+nth (limbs x.natAbs) j=nth (limbs x.natAbs) j+1000000000*m:=by omega
   rw [e];exact h1
  have HN2:Hid (m*1000000000+nth (limbs x.natAbs) j=val ((limbs x.natAbs).drop j)):=by
   rw [zYh,<-HM.out]
   show _=_
   omega
  have hmm:(m:Int)*1000000000<=4611686018427387904:=by omega
  clear hcl;go_wp2_with fail
  go_round
  ·exact ⟨j,m*1000000000+nth (limbs x.natAbs) j,oMx,by go_num,congrArg (Value.int .i64) oMx,HN2.out⟩
  simp [intOf]
 have E1:=oH (show zVs x=0 by unfold zVs;rw [if_neg hb]);have E2:=oH (show zVr x=false by unfold zVr;exact decide_eq_false hb)
 obtain ⟨cm,hcm,hcm0⟩:∃ cm:Int,cm=zJx x.natAbs most.natAbs/\0<cm:=⟨_,rfl,by
  rw [hma,zJz oMx];omega⟩
 rw [<-hcm];clear hcm hma hb;go_wp2_with fail;go_ret2
 exact ⟨by rw [E1.out,E2.out];rfl,HB4.out⟩
end Go.Proofs.YtafflnognagadaaGreatDoor
namespace Go.Proofs.YtafflnognagadaaGreatDoor
open Go.RowKit
theorem zBl (l:List UInt8) (w:World) (hl:l.length<=140737488355328) (h:zYx l=false):Calls Tryz.prog 118 #[.string ⟨l.toArray⟩] w fun e w'=>e = .returned (.tuple #[.int .i64 0,.bool false])/\Below w.heap.size w w':=by
 have HV:=oH (zGs l w hl);rw [h] at HV;clear h
 go_enter Tryz.func118,Tryz.ntmps118
 go_wp2_with fail;refine HV.mono ?_;rintro e w1 ⟨rfl,hb1⟩;have HB1:=oH hb1;clear hb1;go_wp2_with fail;go_ret2
 exact ⟨rfl,HB1.out⟩
end Go.Proofs.YtafflnognagadaaGreatDoor
namespace Go.Proofs.YtafflnognagadaaGreatDoor
open Go.RowKit
theorem zBt.slice {w:World} {v:Value} {z:Int} (h:zBt w v z):∃ (nb:Bool) (A:oAx) (l c:Nat),v = .agg #[.bool nb,.slice A l c]:=by
 obtain ⟨A,c,rfl,_,_⟩:=h;exact ⟨_,A,_,c,rfl⟩
def IsRF (w:World) (v:Value) (q:Rat):Prop:=∃ (na nb:Bool) (A A':oAx) (l c l' c':Nat),v = .agg #[.bool na,.slice A l c,.bool nb,.slice A' l' c']/\zBt w (.agg #[.bool na,.slice A l c]) q.num/\zBt w (.agg #[.bool nb,.slice A' l' c']) (q.den:Int)
def RetRF (w:World) (q:Rat) (e:Ending) (w':World):Prop:=∃ v,e = .returned v/\IsRF w' v q/\Below w.heap.size w w'
end Go.Proofs.YtafflnognagadaaGreatDoor
namespace Go.Proofs.YtafflnognagadaaGreatDoor
open Go.RowKit
attribute [local go_sem ↓] Go.wp_at_zero Go.wp_at_succ
end Go.Proofs.YtafflnognagadaaGreatDoor
namespace Go.Proofs.YtafflnognagadaaGreatDoor
open Go.RowKit
theorem str_1l:Lib.itoa 1=[49]:=by rw [<-zWq,str_1,Lib.toList_data]
end Go.Proofs.YtafflnognagadaaGreatDoor
