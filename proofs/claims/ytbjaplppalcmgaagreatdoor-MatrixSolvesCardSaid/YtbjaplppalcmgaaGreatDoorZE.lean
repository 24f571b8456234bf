import Derived.Test.YtbjaplppalcmgaaGreatDoorShelf
import Derived.Test.YtbjaplppalcmgaaGreatDoorZC
set_option maxHeartbeats 16000000
set_option maxRecDepth 100000
namespace Go.Proofs.YtbjaplppalcmgaaGreatDoor
open Go.RowKit
open Go.RowKit Go.Sort
theorem sizeBuilder:(Tryz.prog.info? 175).map (·.size)=some 2:=by kernel_rfl
theorem liesBuilder:liesAt Tryz.prog Tryz.prog.depth 175 (2/Tryz.prog.cellsOf 175) 0 175 1=true:=by kernel_rfl
theorem infoByte:(Tryz.prog.info? 5).map (fun i=>(i.zero,i.size,i.bytes))=some (some (.int .u8 0),1,1):=by kernel_rfl
theorem zJx (b:Nat) (w:World) (h0:w.cell? ⟨b,0,none⟩=some (.pointer (some ⟨b,0,none⟩))) :
  Calls Tryz.prog 153 #[.pointer (some ⟨b,0,none⟩)] w fun e w'=>e = .returned (.tuple #[])/\w'=w:=by
 obtain ⟨j,hj,_⟩:=Option.map_eq_some_iff.1 sizeBuilder
 go_enter Tryz.func153,Tryz.ntmps153
 go_wp2
 rw [Lib.run_neq_ptr_same w _ Tryz.underlying173 hj]
 go_wp2
 go_end0
 exact ⟨rfl,rfl⟩
theorem zJw (b:Nat) (w:World) (h0:w.cell? ⟨b,0,none⟩=some (.pointer none)) (hsh:w.shape? b=some (175,2)) (hfz:w.frozen? ⟨b,0,none⟩=false) :
  Calls Tryz.prog 153 #[.pointer (some ⟨b,0,none⟩)] w fun e w'=>e = .returned (.tuple #[])/\w'=w.setCell ⟨b,0,none⟩ (.pointer (some ⟨b,0,none⟩)):=by
 obtain ⟨j,hj,hjs⟩:=Option.map_eq_some_iff.1 sizeBuilder
 go_enter Tryz.func153,Tryz.ntmps153
 go_wp2
 rw [Lib.run_to_unsafe w ⟨b,0,none⟩ Tryz.underlying173 Tryz.underlying201 hj (by rw [hjs];decide) hsh (Nat.zero_lt_succ 1)];simp only [Result.andThen];rw [Oper.upon_value]
 go_wp2
 rw [run_callFunc_extern Tryz.func173 (by kernel_rfl) (by kernel_rfl) (by kernel_rfl) (e:=Extern.AbiNoEscape.same) (by kernel_rfl)];rw [Lib.run_noEscape];simp only [Result.andThen];rw [Oper.upon_value]
 go_wp2
 rw [Lib.run_from_unsafe w ⟨b,0,none⟩ Tryz.underlying201 Tryz.underlying173 hj hsh liesBuilder];simp only [Result.andThen];rw [Oper.upon_value]
 go_wp2
 go_end0
 exact ⟨rfl,rfl⟩
theorem zJv (B b:Nat) (bs:List Value) (w:World) (h:Lib.IsBuilder 175 5 B b bs w) :
  Calls Tryz.prog 153 #[.pointer (some ⟨b,0,none⟩)] w fun e w'=>e = .returned (.tuple #[])/\(Lib.BuilderAt 175 5 B b (.pointer (some ⟨b,0,none⟩)) bs w'/\Below B w w'):=by
 rcases h with h|h
 ·refine (zJw b w h.cell0 h.shape h.frozen0).mono ?_;rintro e w' ⟨rfl,rfl⟩;exact ⟨rfl,h.used _,(Below.refl B w).setCell (p:=⟨b,0,none⟩) h.1 _⟩
 refine (zJx b w h.cell0).mono ?_;rintro e w' ⟨rfl,rfl⟩;exact ⟨rfl,h,Below.refl B _⟩
theorem xGf (B b:Nat) (bs:List Value) (s:ByteArray) (w:World) (h:Lib.IsBuilder 175 5 B b bs w) (hlen:bs.length+s.size<=140737488355328) (hBw:B<=w.heap.size) :
  Calls Tryz.prog 139 #[.pointer (some ⟨b,0,none⟩),.string s] w fun e w'=>e = .returned (.tuple #[.int .i64 s.size,.nilIface])/\(Lib.BuilderAt 175 5 B b (.pointer (some ⟨b,0,none⟩)) (bs++Lib.strCells s) w'/\Below B w w'):=by
 obtain ⟨i0,hi,hz0,hz1,hz2⟩:=info_parts infoByte
 go_enter Tryz.func139,Tryz.ntmps139
 go_wp2_with (go_at_call 153;refine (zJv B b bs _ h).mono ?_)
 rintro e w1 ⟨rfl,h1,hb1⟩;obtain ⟨hB,v,hbk,hown,hne⟩:=h1
 have c0:w1.cell? ⟨b,0,none⟩=some (.pointer (some ⟨b,0,none⟩)):=by rw [Lib.cell_of_heap hbk];rfl
 have c1:w1.cell? ⟨b,1,none⟩=some v:=by rw [Lib.cell_of_heap hbk];rfl
 go_wp2_with (at_builtin;refine Lib.wpList_append_own_string _ rfl _ _ 157 9 rfl B 5 i0 Tryz.underlying157 Tryz.underlying9 hi hz0 hz1 hz2 _ _ _ rfl hown s rfl ?c3 ?c4 ?c5 ?_)
 case c3=>unfold maxLen;omega
 case c4=>omega
 case c5=>have:=hb1.size;omega
 intro v' w2 hown' hgrow _
 have hlt:b<w1.heap.size:=by
  rcases Nat.lt_or_ge b w1.heap.size with h'|h'
  ·exact h'
  simp [Array.getElem?_eq_none h'] at hbk
 have hb2:w2.heap[b]? = some (.cells #[.pointer (some ⟨b,0,none⟩),v] 175 (0,0)):=by
  rw [hgrow.block b hlt (fun e=>hne e.symm)];exact hbk
 have d0:w2.cell? ⟨b,0,none⟩=some (.pointer (some ⟨b,0,none⟩)):=by rw [Lib.cell_of_heap hb2];rfl
 have d1:w2.cell? ⟨b,1,none⟩=some v:=by rw [Lib.cell_of_heap hb2];rfl
 have f1:w2.frozen? ⟨b,1,none⟩=false:=Lib.frozen_of_heap hb2 1
 obtain ⟨ao,n',cap,rfl⟩:∃ ao n' cap,v' = .slice ao n' cap:=by
  rcases hown'.2 with ⟨hv,_⟩|⟨g,cap,cur,hv,_⟩
  ·exact ⟨_,_,_,hv⟩
  exact ⟨_,_,_,hv⟩
 go_wp2
 go_ret2
 refine ⟨rfl,?_,?_⟩
 ·exact Lib.BuilderAt.put (T:=175) (e:=5) hB hb2 (bs':=bs++Lib.strCells s) (by simpa [Lib.strCells_length] using hown') dCx
 exact (hb1.grown hgrow (by have:=hb1.size;omega) (fun k hk=>(hown.lt k hk).1)).setCell (p:=⟨b,1,none⟩) hB _
def Tab (w:World):Prop:=Lib.TabIs Tryz.prog w "internal/strconv.uint64pow10" .u64 Lib.pow10Tab
theorem Tab.below {w w':World} (h:Tab w) (hb:Below w.heap.size w w'):Tab w':=by
 unfold Tab Lib.TabIs World.var? at *
 cases hg:Tryz.prog.globalNamed "internal/strconv.uint64pow10" with
 | none=>simp [hg] at h
 | some g =>
  simp only [hg,Option.bind_some] at h ⊢
  have hlt:g<w.heap.size:=by
   rcases Nat.lt_or_ge g w.heap.size with h'|h'
   ·exact h'
   rw [Array.getElem?_eq_none h'] at h;simp at h
  rw [hb.block g hlt];exact h
theorem zIo (w:World) (k:Nat) (os:Array Obj):Below w.heap.size w (Go.Sort.grow (w.drewN k) os) :=
 ⟨rfl,rfl,rfl,by simp [Go.Sort.grow],fun i hi=>by simp [Go.Sort.grow,Array.getElem?_append,hi]⟩
theorem zOi (w:World) (T:TypeId) (nd:Nat) (hs:nd<=24):Holds (fun (b:UInt8)=>Value.int .u8 (b.toNat:Int)) (w.alloc (.cells Lib.zeros24 T)) w.heap.size 0 (Array.replicate nd (0:UInt8)):=fun j hj=>by
 have hj':j<nd:=by simpa using hj
 refine ⟨?_,World.frozen?_alloc_new _ _ _ _⟩;rw [World.cell?_alloc_new,Lib.zeros24_at _ oMx,getElem!_pos _ j hj]
 simp
theorem fin_pos0 (w:World) (o:Obj) (dk:Array UInt8) (k:Nat):∃ os,(putRow (fun (b:UInt8)=>Value.int .u8 (b.toNat:Int)) (w.alloc o) w.heap.size 0 dk).drewN k=Go.Sort.grow (w.drewN k) os:=by
 rw [alloc_eq_grow];obtain ⟨os',_,e⟩:=putRow_grow_new (fun (b:UInt8)=>Value.int .u8 (b.toNat:Int)) w #[o] w.heap.size 0 dk lRx;exact ⟨os',by rw [e];rfl⟩
theorem zNg (u:Nat) (w:World) (hu:u<1000000000) (htab:Tab w) :
  Calls Tryz.prog 138 #[.int .u64 u,.int .i64 10] w fun e w'=>e = .returned (.string ⟨(Lib.decDigits u).toArray⟩)/\Below w.heap.size w w':=by
 by_cases hs:u<100
 ·go_enter Tryz.func138,Tryz.ntmps138
  go_wp2_with (go_at_call 149;refine (Tryz.internal_strconv_small u hs _).mono ?_;rintro e w' ⟨rfl,rfl⟩)
  go_ret
  exact ⟨rfl,bRx⟩
 have hu1:1<=u:=by omega
 have hu64:u<18446744073709551616:=by omega
 have hnd20:Lib.nDigits u<=20:=by have:=Lib.numDigits_eq u hu1 hu64;split at this<;>omega
 have hal:Tryz.prog.arrayLen 182=24:=by simp [Program.arrayLen,Tryz.underlying182]
 have hsl1:∀ W,(Instr.sliceAt 182 (.pointer (some ⟨w.heap.size,0,none⟩)) none (some (.int .i64 (Lib.nDigits u:Int))) none).run Tryz.prog W = .ok (.slice (some ⟨w.heap.size,0,none⟩) (Lib.nDigits u) 24) W:=fun W=>by
  rw [run_sliceAt_array_h W 182 ⟨w.heap.size,0,none⟩ (by simp [Program.arrayLen,Program.elem,Tryz.underlying182]) .i64 (Lib.nDigits u:Int) oMx (by rw [hal];omega)]
  go_simp
 have hH0:=zOi w 182 (Lib.nDigits u) oMx;have hfmt:=Tryz.internal_strconv_formatBase10 w.heap.size 0 24 u (Array.replicate (Lib.nDigits u) 0) (w.alloc (.cells Lib.zeros24 182)) hH0 (by rw [Array.size_replicate];exact Lib.lt_pow_nDigits u) hu64 (by rw [Array.size_replicate];omega);rw [Array.size_replicate] at hfmt;have HH0:=oH hH0;have HT:=oH htab;clear hH0 hal htab
 go_enter Tryz.func138,Tryz.ntmps138
 go_wp2_with (first|(go_at_call 150;refine (Tryz.internal_strconv_numDigits u hu1 hu64 _ (Lib.tabIs_alloc HT.out _)).mono ?_;rintro e w' ⟨rfl,rfl⟩))
 go_at_call 151
 refine hfmt.mono ?_;rintro e w' ⟨rfl,k,v',dk,rfl,hF⟩
 have hcv:(convert 157 9 (.slice (some ⟨w.heap.size,0,none⟩) (Lib.nDigits u) 24)).run Tryz.prog ((putRow (fun (b:UInt8)=>Value.int .u8 (b.toNat:Int)) (w.alloc (.cells Lib.zeros24 182)) w.heap.size 0 dk).drewN k) = .ok (.string ⟨(Lib.decDigits u).toArray⟩) ((putRow (fun (b:UInt8)=>Value.int .u8 (b.toNat:Int)) (w.alloc (.cells Lib.zeros24 182)) w.heap.size 0 dk).drewN k):=by
  have h:=run_convert_bytes_back (P:=Tryz.prog) ((putRow (fun (b:UInt8)=>Value.int .u8 (b.toNat:Int)) (w.alloc (.cells Lib.zeros24 182)) w.heap.size 0 dk).drewN k) 157 9 5 ⟨w.heap.size,0,none⟩ 24 (Lib.decDigits u) Tryz.underlying157 Tryz.underlying5 Tryz.underlying9 (fun j hj=>by
   rw [Lib.row_is_numeral hF j hj,Lib.add_plain,World.cell?_drewN]
   exact cell?_putRow (fun (b:UInt8)=>Value.int .u8 (b.toNat:Int)) _ w.heap.size 0 _ dk HH0.out (by rw [hF.size,Array.size_replicate]) j (by rw [hF.size];rw [Lib.decDigits_length] at hj;exact hj))
  rw [Lib.decDigits_length] at h;exact h
 go_wp2
 go_ret
 obtain ⟨os,eo⟩:=fin_pos0 w (.cells Lib.zeros24 182) dk k;exact ⟨rfl,by rw [eo];exact zIo w k os⟩
theorem zNh (u:Nat) (w:World) (hu:u<1000000000) (htab:Tab w) :
  Calls Tryz.prog 120 #[.int .u64 u,.int .i64 10] w fun e w'=>e = .returned (.string ⟨(Lib.decDigits u).toArray⟩)/\Below w.heap.size w w':=by
 have HI:=oH (zNg u w hu htab);clear htab
 go_enter Tryz.func120,Tryz.ntmps120
 go_wp2_with fail;refine HI.mono ?_;rintro e w1 ⟨rfl,hb⟩;have HB:=oH hb;clear hb;go_wp2_with fail;go_ret
 exact ⟨rfl,HB.out⟩
theorem xEe {n k:Nat} (hk:k<(limbs n).length):0<val ((limbs n).drop k):=by
 obtain ⟨m,hm⟩:∃ m,(limbs n).length=m+1:=⟨(limbs n).length-1,oMx⟩;have h1:=zSs hm
 have h2:nth ((limbs n).drop k) (m-k)=nth (limbs n) m:=by
  unfold nth;rw [List.getD_eq_getElem?_getD,List.getD_eq_getElem?_getD,List.getElem?_drop,show k+(m-k)=m by omega]
 have h3:=xEl ((limbs n).drop k) (m-k);rw [List.length_drop,Nat.min_eq_left oMx,xEd ((limbs n).drop k) (m-k),h2] at h3;have h4:1000000000^(m-k)*1<=1000000000^(m-k)*(nth (limbs n) m+1000000000*val (((limbs n).drop k).drop (m-k+1))):=Nat.mul_le_mul_left _ oMx;have h5:=pow_pos' (m-k);omega
theorem zKn {n k:Nat} (hk:k+1<(limbs n).length):Lib.decDigits (val ((limbs n).drop k))=Lib.decDigits (val ((limbs n).drop (k+1)))++pad9 (nth (limbs n) k):=by
 rw [xEd (limbs n) k,<-zKi (xEe hk) ((Low.limbs n).nth k)]
 congr 1
 omega
theorem zKj (n k:Nat) (hk:k<(limbs n).length):(Lib.decDigits (val ((limbs n).drop k))).length=9*((limbs n).length-1-k)+(Lib.decDigits (nth (limbs n) ((limbs n).length-1))).length:=by
 generalize hd:(limbs n).length-1-k=d
 induction d generalizing k with
 | zero =>
  obtain rfl:k=(limbs n).length-1:=by omega
  rw [xEd,List.drop_eq_nil_of_le oMx,xEi]
  simp
 | succ d ih =>
  rw [zKn oMx,List.length_append,ih (k+1) oMx oMx,zUy ((Low.limbs n).nth k)];omega
theorem zAm (u:Value) (x:Int) (w:World) (hx:zBs w u x) (hlx:(limbs x.natAbs).length<=10000000) (htab:Tab w) :
  Calls Tryz.prog 92 #[u] w fun e w'=>e = .returned (.int .i64 (Lib.nDigits x.natAbs:Nat))/\Below w.heap.size w w':=by
 obtain ⟨_,rfl,A,c,rfl,hlc,hc⟩:=hx;generalize decide (x<0)=na at *;generalize x.natAbs=n at *;have HT:=oH htab;clear htab
 rcases Nat.eq_zero_or_pos n with h0|h0
 ·subst h0;have E:=oH (show Lib.nDigits 0=1 from Lib.nDigits_small oMx)
  have hz:(limbs 0).length=0:=by rw [zQo];rfl
  rw [hz];clear hc hz hlc hlx
  go_enter Tryz.func92,Tryz.ntmps92
  go_wp2_with fail;go_ret
  exact ⟨by rw [E.out];rfl,bA⟩
 have hp:=zQg.2 (show n≠0 by omega);obtain ⟨m,hm⟩:∃ m,(limbs n).length=m+1:=⟨(limbs n).length-1,oMx⟩;obtain ⟨g,off,rfl,hg,hcl⟩:=hc (by intro e;rw [e] at hp;simp at hp);have hcell:=hcl m oMx;have hlow:=(Low.limbs n).nth m
 have E:=oH (show Lib.nDigits n=9*m+(Lib.decDigits (nth (limbs n) m)).length by
  have:=zKj n 0 hp;rw [List.drop_zero,xEf,Lib.decDigits_length,hm,Nat.add_sub_cancel,Nat.sub_zero] at this
  exact this)
 have hdl:=zKk (r:=nth (limbs n) m) (k:=9) oMx (by simpa using hlow)
 have hcell':(w.alloc (.cells #[.bool na,.slice (some ⟨g,off,none⟩) (m+1) c] 62)).cell? ⟨g,off+m,none⟩=some (.int .u64 ((nth (limbs n) m:Nat):Int)):=by
  rw [World.cell?_alloc_lt _ _ _ hg];exact hcell
 rw [hm] at hlx ⊢;have HB:Hid (Below w.heap.size w (w.alloc (.cells #[.bool na,.slice (some ⟨g,off,none⟩) (m+1) c] 62))):=bA;have HF:=oH (zNh (nth (limbs n) m) _ hlow (HT.below HB.out));clear hcl hm hp hcell hlc
 go_enter Tryz.func92,Tryz.ntmps92
 go_wp2_with fail;refine HF.mono ?_;rintro e w2 ⟨rfl,hb2⟩;have HB2:=oH hb2;clear hb2;go_wp2_with fail;go_ret
 refine ⟨?_,HB.trans (HB2.mono sMx)⟩;rw [E.out]
 simp
def Bu (B b:Nat) (l:List UInt8) (w:World):Prop:=Lib.IsBuilder 175 5 B b (Lib.byteCells l) w
theorem zIz {B b:Nat} {p:Value} {bs:List Value} {w w':World} (h:Lib.BuilderAt 175 5 B b p bs w) (hb:Below w.heap.size w w'):Lib.BuilderAt 175 5 B b p bs w':=by
 have hlt:=h.lt;obtain ⟨hB,v,hbk,hown,hne⟩:=h
 exact ⟨hB,v,(hb.block b hlt).trans hbk,hown.kept (row:=none) ⟨hb.os,hb.tape,hb.output,hb.size,fun k hk _=>hb.block k hk⟩ (by
  rcases hv:v.ownBlock with _|g
  ·exact .inl rfl
  exact .inr sMx),hne⟩
theorem Bu.below {B b:Nat} {l:List UInt8} {w w':World} (h:Bu B b l w) (hb:Below w.heap.size w w'):Bu B b l w':=by
 rcases h with h|h
 ·exact .inl (zIz h hb)
 exact .inr (zIz h hb)
theorem Bu.new (w:World):Bu w.heap.size w.heap.size [] (w.alloc (.cells #[.pointer none,.slice none 0 0] 175)) :=
 .inl ⟨lRx,.slice none 0 0,heap_alloc_new w _,World.ownsRow_nil _ _ _ _,by simp [Value.ownBlock]⟩
theorem xGg (B b:Nat) (l m:List UInt8) (w:World) (h:Bu B b l w) (hlen:l.length+m.length<=1000000000) (hBw:B<=w.heap.size) :
  Calls Tryz.prog 139 #[.pointer (some ⟨b,0,none⟩),.string ⟨m.toArray⟩] w fun e w'=>e = .returned (.tuple #[.int .i64 (m.length:Nat),.nilIface])/\Bu B b (l++m) w'/\Below B w w':=by
 refine (xGf B b (Lib.byteCells l) ⟨m.toArray⟩ w h (by rw [Lib.byteCells_length];show l.length+m.toArray.size<=_;simp;omega) hBw).mono ?_;rintro e w' ⟨rfl,h1,h2⟩;refine ⟨by simp [ByteArray.size],.inr ?_,h2⟩;rw [Lib.byteCells_append];exact h1
def xBf (n k:Nat):List UInt8:=if k=(limbs n).length then [] else Lib.decDigits (val ((limbs n).drop k))
theorem xBg {n m:Nat} (h:(limbs n).length=m+1):xBf n m=Lib.decDigits (nth (limbs n) m):=by
 rw [xBf,if_neg oMx,xEd,List.drop_eq_nil_of_le oMx,xEi];rfl
theorem xBi {n k:Nat} (h:k+1<(limbs n).length):xBf n k=xBf n (k+1)++(List.replicate (9-(Lib.decDigits (nth (limbs n) k)).length) 48++Lib.decDigits (nth (limbs n) k)):=by
 rw [xBf,xBf,if_neg oMx,if_neg oMx,zKn h];rfl
theorem xBh (n k:Nat) (hk:k<=(limbs n).length):(xBf n k).length<=9*(limbs n).length:=by
 unfold xBf
 by_cases h:k=(limbs n).length
 ·rw [if_pos h];simp
 rw [if_neg h,zKj n k oMx];have:=zKk (r:=nth (limbs n) ((limbs n).length-1)) (k:=9) oMx (by simpa using (Low.limbs n).nth _);omega
theorem zWg (c:Nat):Lib.repeatL [48] c=List.replicate c 48:=by
 induction c with
 | zero=>rfl
 | succ c ih=>rw [Lib.repeatL,ih,List.replicate_succ];rfl
def sgB (b:Bool):List UInt8:=if b then [45] else []
theorem zPa (x:Int) (h:x≠0):Lib.itoa x=sgB (decide (x<0))++xBf x.natAbs 0:=by
 have h1:0≠(limbs x.natAbs).length:=by have:=zQg.2 (show x.natAbs≠0 by omega);omega
 rw [xBf,if_neg h1,List.drop_zero,xEf];unfold Lib.itoa sgB
 by_cases hx:x<0
 ·simp [hx]
 simp [hx];congr 1;omega
theorem zGw (u:Value) (x:Int) (w:World) (hx:zBs w u x) (hlx:(limbs x.natAbs).length<=10000000) (htab:Tab w) :
  Calls Tryz.prog 122 #[u] w fun e w'=>e = .returned (.string ⟨(Lib.itoa x).toArray⟩)/\Below w.heap.size w w':=by
 obtain ⟨_,rfl,A,c,rfl,hlc,hc⟩:=hx
 by_cases hx0:x=0
 ·subst hx0;have E:=oH (show Lib.itoa 0=[48] by unfold Lib.itoa;rw [if_neg oMx];exact Lib.decDigits_one dCx)
  have hz:(limbs (0:Int).natAbs).length=0:=by rw [show (0:Int).natAbs=0 from rfl,zQo];rfl
  rw [hz];clear hc hz hlc hlx
  go_enter Tryz.func122,Tryz.ntmps122
  go_wp2_with fail;go_ret
  exact ⟨by rw [E.out];rfl,bA⟩
 have E:=oH (zPa x hx0);have hp:=zQg.2 (show x.natAbs≠0 by omega)
 have hp':(((limbs x.natAbs).length:Int)==0)=false:=by rw [beq_eq_false_iff_ne];omega
 generalize decide (x<0)=na at *;generalize x.natAbs=n at *;have HT:=oH htab;have HC:=oH hc;clear htab hc
 go_enter Tryz.func122,Tryz.ntmps122
 go_upto_region 4 with (fail);have hb0:Below w.heap.size w (w.alloc (.cells #[.bool na,.slice A (limbs n).length c] 62)):=bA;have hbox:(w.alloc (.cells #[.bool na,.slice A (limbs n).length c] 62)).heap[w.heap.size]? = some (.cells #[.bool na,.slice A (limbs n).length c] 62 (0,0)):=heap_alloc_new w _
 have hs0:(w.alloc (.cells #[.bool na,.slice A (limbs n).length c] 62)).heap.size=w.heap.size+1:=by simp
 generalize w.alloc (.cells #[.bool na,.slice A (limbs n).length c] 62)=W0 at *;have hbu:=Bu.new W0;have hb1:Below W0.heap.size W0 (W0.alloc (.cells #[.pointer none,.slice none 0 0] 175)):=bA;rw [hs0] at hbu hb1;generalize W0.alloc (.cells #[.pointer none,.slice none 0 0] 175)=W1 at *
 have hs1:w.heap.size+1<=W1.heap.size:=by have:=hb1.size;omega
 have HBU:=oH hbu;have HB1:=oH hb1;have HB0:=oH hb0;have HBOX:=oH hbox;have HS0:=oH hs0;clear hbu hb1 hb0 hbox hs0;have ha0:W1.cell? ⟨w.heap.size,0,none⟩=some (.bool na):=(HB1.cell (p:=⟨w.heap.size,0,none⟩) (by show w.heap.size<w.heap.size+1;omega)).trans (cell_of_row _ _ 0 _ _ _ HBOX.out)
 go_upto_if 11 with (fail)
 clear ha0
 go_cut [1,3] (fun s1 s3 wc=>s1 = .pointer (some ⟨w.heap.size,0,none⟩)/\s3 = .pointer (some ⟨w.heap.size+1,0,none⟩)/\Bu (w.heap.size+1) (w.heap.size+1) (sgB na) wc/\Below (w.heap.size+1) W0 wc)
 case first =>
  cases na
  ·go_wp2_with fail
   go_meet
   case rel=>exact ⟨rfl,rfl,HBU.out,HB1.out⟩
  have HW:=oH (xGg (w.heap.size+1) (w.heap.size+1) [] [45] W1 HBU.out sMx hs1);go_wp2_with fail;refine HW.mono ?_;rintro e w2 ⟨rfl,hbu2,hb2⟩;have HBU2:=oH hbu2;have HB2:=oH hb2;clear hbu2 hb2;go_wp2_with fail
  go_meet
  case rel=>exact ⟨rfl,rfl,HBU2.out,HB1.trans HB2.out⟩
 case rest =>
  obtain ⟨rfl,rfl,hbu,hbc⟩:=hcut;have ha1:wc.cell? ⟨w.heap.size,1,none⟩=some (.slice A (limbs n).length c):=(hbc.cell (p:=⟨w.heap.size,1,none⟩) (by show w.heap.size<w.heap.size+1;omega)).trans (cell_of_row _ _ 1 _ _ _ HBOX.out);clear HBU HB1;have HBU:=oH hbu;have HBC:=oH hbc;clear hbu hbc;go_wp2_with fail;clear ha1
  go_loopw [4] (fun ix wr=>∃ k:Nat,k<=(limbs n).length/\ix = .int .i64 ((k:Int)-1)/\Bu (w.heap.size+1) (w.heap.size+1) (sgB na++xBf n k) wr/\Below (w.heap.size+1) W0 wr) (fun ix _=>(intOf ix+1).toNat)
  ·exact ⟨(limbs n).length,lRx,rfl,by rw [xBf,if_pos rfl,List.append_nil];exact HBU.out,HBC.out⟩
  obtain ⟨k,hk,rfl,hbu,hbr⟩:=hrel;clear HBU HBC;have HBU:=oH hbu;have HBR:=oH hbr;have ha1:wr.cell? ⟨w.heap.size,1,none⟩=some (.slice A (limbs n).length c):=(hbr.cell (p:=⟨w.heap.size,1,none⟩) (by show w.heap.size<w.heap.size+1;omega)).trans (cell_of_row _ _ 1 _ _ _ HBOX.out);have hsr:=hbr.size;have hbw:Below w.heap.size w wr:=HB0.trans (hbr.mono oMx);have HBW:=oH hbw;have HCR:=oH (HC.below hbw);have HTR:=oH (HT.below hbw);clear hbu hbr hbw
  have hsr':w.heap.size+1<=wr.heap.size:=by have:=HS0.out;omega
  clear hsr
  rcases Nat.eq_zero_or_pos k with h0|h0
  ·subst h0;have HS:=oH (Tryz.Builder_String_any (w.heap.size+1) (w.heap.size+1) (sgB na++xBf n 0) wr HBU.out hsr');go_wp2_with fail;refine HS.mono ?_;rintro e w3 ⟨rfl,hb3⟩;have HB3:=oH hb3;clear hb3;go_wp2_with fail;go_ret
   exact ⟨by rw [E.out];rfl,HBW.trans (HB3.mono oMx)⟩
  obtain ⟨j,rfl⟩:∃ j,k=j+1:=⟨k-1,oMx⟩;obtain ⟨g,off,rfl,hg,hcl⟩:=HCR.out (by intro e;rw [e] at hp;simp at hp);have hcell:=hcl j oMx;have hlow:=(Low.limbs n).nth j;have hdl:=zKk (r:=nth (limbs n) j) (k:=9) oMx (by simpa using hlow);have hdl1:=Lib.nDigits_pos (nth (limbs n) j);rw [<-Lib.decDigits_length] at hdl1;have hsl:=xBh n (j+1) hk
  have hsg:(sgB na).length<=1:=by cases na<;>simp [sgB]
  have HF:=oH (zNh (nth (limbs n) j) wr hlow HTR.out);clear hcl;go_wp2_with fail;refine HF.mono ?_;rintro e w4 ⟨rfl,hb4⟩;have hs4:=hb4.size;have ha4:w4.cell? ⟨w.heap.size,1,none⟩=some (.slice (some ⟨g,off,none⟩) (limbs n).length c):=(hb4.cell (p:=⟨w.heap.size,1,none⟩) (by show w.heap.size<wr.heap.size;omega)).trans ha1;have HBU4:=oH (HBU.below hb4);have HB4:=oH (HBR.trans (hb4.mono hsr'));clear hb4 HF ha1
  by_cases hj:j+1<(limbs n).length
  ·have EN:=oH (xBi hj);have HRP:=oH (Tryz.strings_Repeat ⟨#[48]⟩ (9-(Lib.decDigits (nth (limbs n) j)).length) w4 oMx (by show 1*_<=_;omega));go_wp2_with fail;rw [show ((9:Int)-((Lib.decDigits (nth (limbs n) j)).length:Int))=((9-(Lib.decDigits (nth (limbs n) j)).length:Nat):Int) by omega];refine HRP.mono ?_;rintro e w5 ⟨rfl,hb5⟩;have hs5:=hb5.size;have HBU5:=oH (HBU4.below hb5);have HB5:=oH (HB4.trans (hb5.mono (show w.heap.size+1<=w4.heap.size by omega)));clear hb5 HRP;have erp:Lib.repeatL (⟨#[48]⟩:ByteArray).data.toList (9-(Lib.decDigits (nth (limbs n) j)).length)=List.replicate (9-(Lib.decDigits (nth (limbs n) j)).length) 48:=zWg _;rw [erp];clear erp;have HW:=oH (xGg (w.heap.size+1) (w.heap.size+1) (sgB na++xBf n (j+1)) (List.replicate (9-(Lib.decDigits (nth (limbs n) j)).length) 48) w5 HBU5.out (by rw [List.length_append,List.length_replicate];omega) oMx)
   have hzl:(List.replicate (9-(Lib.decDigits (nth (limbs n) j)).length) (48:UInt8)).length<=9:=by rw [List.length_replicate];omega
   generalize List.replicate (9-(Lib.decDigits (nth (limbs n) j)).length) (48:UInt8)=zs at *;go_wp2_with fail;refine HW.mono ?_;rintro e w6 ⟨rfl,hbu6,hb6⟩;have hs6:=hb6.size;have HBU6:=oH hbu6;have HB6:=oH (HB5.trans hb6);clear hbu6 hb6 HW;have HW:=oH (xGg (w.heap.size+1) (w.heap.size+1) ((sgB na++xBf n (j+1))++zs) (Lib.decDigits (nth (limbs n) j)) w6 HBU6.out (by rw [List.length_append,List.length_append];omega) oMx);go_wp2_with fail;refine HW.mono ?_;rintro e w7 ⟨rfl,hbu7,hb7⟩;have HBU7:=oH hbu7;have HB7:=oH (HB6.trans hb7);clear hbu7 hb7 HW;go_wp2_with fail;go_roundw
   ·exact ⟨j,oMx,by go_num,by rw [EN.out,<-List.append_assoc,<-List.append_assoc];exact HBU7.out,HB7.out⟩
   simp [intOf]
  have EN:=oH (xBg (n:=n) (m:=j) oMx);have ED:=oH (show xBf n (j+1)=[] by rw [xBf,if_pos oMx]);have HW:=oH (xGg (w.heap.size+1) (w.heap.size+1) (sgB na++xBf n (j+1)) (Lib.decDigits (nth (limbs n) j)) w4 HBU4.out (by rw [List.length_append];omega) oMx);go_wp2_with fail;refine HW.mono ?_;rintro e w7 ⟨rfl,hbu7,hb7⟩;have HBU7:=oH hbu7;have HB7:=oH (HB4.trans hb7);clear hbu7 hb7 HW;go_wp2_with fail;go_roundw
  ·exact ⟨j,oMx,by go_num,by have:=HBU7.out;rw [ED.out,List.append_nil] at this;rw [EN.out];exact this,HB7.out⟩
  simp [intOf]
theorem zOg (l:List UInt8) (h:zAn l):Lib.hasPrefix l [45]=false:=by
 cases l with
 | nil=>rfl
 | cons c l =>
  have:=h.head;unfold zBn at this;simp only [Lib.hasPrefix,List.isPrefixOf_cons_cons,List.isPrefixOf_nil_left,Bool.and_true,beq_eq_false_iff_ne]
  intro e
  have:=congrArg UInt8.toNat e
  simp at this
  omega
theorem zPd (x:Int):Lib.hasPrefix (Lib.itoa x) [45]=decide (x<0)/\Lib.trimPrefix (Lib.itoa x) [45]=Lib.decDigits x.natAbs:=by
 unfold Lib.itoa
 by_cases hx:x<0
 ·rw [if_pos hx]
  simp [Lib.hasPrefix,Lib.trimPrefix,hx]
 rw [if_neg hx];have h1:=zOg _ (zKg x.toNat);refine ⟨by rw [h1];simp [hx],?_⟩;rw [Lib.trimPrefix,h1]
 simp
 congr 1
 omega
theorem zUo {w:World} {B e:Nat} {v:Value} {xs:List Nat} (h:w.ownsRow B e 1 v xs.length (xs.map fun x:Nat=>Value.int .u64 (x:Int))):∃ A c,v = .slice A xs.length c/\xs.length<=c/\zAe .u64 w A xs:=by
 rcases h.2 with ⟨hv,h0⟩|⟨g,cap,cur,hv,hB,hg,hle,hm,hs,htake⟩
 ·have:xs=[]:=by simpa using h0
  subst this;exact ⟨none,0,hv,by simp,zAe.nil _ _ _⟩
 refine ⟨_,cap,hv,hle,fun _=>⟨g,0,rfl,?_,fun i hi=>?_⟩⟩
 ·rcases Nat.lt_or_ge g w.heap.size with h'|h'
  ·exact h'
  rw [Array.getElem?_eq_none h'] at hg;cases hg
 subst hv;have:=h.cellAt i oMx;rw [Nat.zero_add,this,zSt hi]
 simp [hi]
theorem zFf (x:Int) (w:World) (hl:(Lib.decDigits x.natAbs).length<=10000000) :
  Calls Tryz.prog 108 #[.string ⟨(Lib.itoa x).toArray⟩] w (zFw w x):=by
 have HP:=oH (Tryz.strings_CutPrefix ⟨(Lib.itoa x).toArray⟩ ⟨#[45]⟩);have hpe:=zPd x
 have e1:(⟨(Lib.itoa x).toArray⟩:ByteArray).data.toList=Lib.itoa x:=by simp
 have e2:(⟨#[45]⟩:ByteArray).data.toList=[45]:=rfl;rw [e1,e2,hpe.1,hpe.2] at HP;clear e1 e2 hpe;have HSG:=oH (zZk x);generalize decide (x<0)=na at *;generalize hnn:x.natAbs=n at *;clear hnn;have hdp:=Lib.nDigits_pos n;rw [<-Lib.decDigits_length] at hdp;obtain ⟨i0,hi,hz0,hz1,hz2⟩:=info_parts Tryz.infoU64
 go_enter Tryz.func108,Tryz.ntmps108
 go_wp2_with fail;refine (HP.out _).mono ?_;rintro e w1 ⟨rfl,rfl⟩;clear HP;go_wp2_with fail;have hr:=Res.new w;have hb0:Below w.heap.size w (w.alloc (.cells #[.bool false,.slice none 0 0] 62)):=bA
 have hs0:(w.alloc (.cells #[.bool false,.slice none 0 0] 62)).heap.size=w.heap.size+1:=by simp
 generalize w.alloc (.cells #[.bool false,.slice none 0 0] 62)=W0 at *;have HR:=oH hr;have HB0:=oH hb0;have HS0:=oH hs0;clear hr hb0 hs0
 go_loopw [5,6] (fun v ix wr=>∃ k:Nat,ix = .int .i64 (((Lib.decDigits n).length:Int)-9*(k:Int))/\9*k<(Lib.decDigits n).length+9/\wr.ownsRow (w.heap.size+1) 126 1 v (zPq n k).length ((zPq n k).map fun x:Nat=>Value.int .u64 (x:Int))/\Below (w.heap.size+1) W0 wr) (fun _ ix _=>(intOf ix).toNat)
 ·exact ⟨0,by simp,oMx,World.ownsRow_nil _ _ _ _,bRx⟩
 obtain ⟨k,rfl,hk,hown,hbr⟩:=hrel;have HOWN:=oH hown;have HBR:=oH hbr
 have hsr:w.heap.size+1<=wr.heap.size:=by have:=hbr.size;have:=HS0.out;omega
 clear hown hbr
 by_cases hlt:9*k<(Lib.decDigits n).length
 ·have hcv:=zJj n k hlt
  have hcl:(((Lib.decDigits n).take ((Lib.decDigits n).length-9*k)).drop ((Lib.decDigits n).length-9*k-9)).length=(Lib.decDigits n).length-9*k-((Lib.decDigits n).length-9*k-9):=by rw [List.length_drop,List.length_take];omega
  have hpu:=zUz (((zKg n).take ((Lib.decDigits n).length-9*k)).drop ((Lib.decDigits n).length-9*k-9)) (by intro e;rw [e] at hcl;simp at hcl;omega) oMx;rw [hcv] at hpu
  have hex:(((⟨(Lib.decDigits n).toArray⟩:ByteArray).extract (max 0 (((Lib.decDigits n).length:Int)-9*(k:Int)-9)).toNat ((Lib.decDigits n).length-9*k)).data.toList)=(((Lib.decDigits n).take ((Lib.decDigits n).length-9*k)).drop ((Lib.decDigits n).length-9*k-9)):=by
   rw [show (max 0 (((Lib.decDigits n).length:Int)-9*(k:Int)-9)).toNat=(Lib.decDigits n).length-9*k-9 by omega,Lib.extract_data,List.drop_take]
  have HPU:=oH (Tryz.strconv_ParseUint_10_at64_ok ((⟨(Lib.decDigits n).toArray⟩:ByteArray).extract (max 0 (((Lib.decDigits n).length:Int)-9*(k:Int)-9)).toNat ((Lib.decDigits n).length-9*k)) (by
   show (ByteArray.extract _ _ _).data.size<=_
   have:=congrArg List.length hex;rw [Array.length_toList] at this
   rw [this,hcl];omega) (n/1000000000^k%1000000000) (by rw [hex];exact hpu) wr)
  clear hcv hcl hpu hex;go_wp2_with fail;refine HPU.mono ?_;rintro e w2 ⟨rfl,hw2⟩
  have hb2:Below wr.heap.size wr w2:=by
   rcases hw2 with h|h
   ·rw [h];exact bRx
   rw [h];exact Lib.bytesWorld_below _ _ _
  have hs2:=hb2.size
  have hown2:w2.ownsRow (w.heap.size+1) 126 1 u5 (zPq n k).length ((zPq n k).map fun x:Nat=>Value.int .u64 (x:Int)):=HOWN.kept (row:=none) ⟨hb2.os,hb2.tape,hb2.output,hb2.size,fun k hk _=>hb2.block k hk⟩ (by
   rcases hv:u5.ownBlock with _|g
   ·exact .inl rfl
   exact .inr sMx)
  have HOWN2:=oH hown2;have HB2:=oH (HBR.trans (hb2.mono hsr));have hll:=zPr n k;have HLL:=oH hll;clear hw2 hb2 hown2 HOWN HPU
  have hkl:(zPq n k).length<=10000000:=by omega
  clear hll;have hm:=Nat.mod_lt (n/1000000000^k) (show 0<1000000000 by omega);have ES:=oH (zPt n k);generalize n/1000000000^k%1000000000=lb at *
  go_wp2_with (at_builtin;refine wpList_append_own _ rfl _ _ 60 rfl (w.heap.size+1) 126 i0 (.int .u64 0) 1 8 Tryz.underlying60 hi hz0 hz1 hz2 rfl dCx _ _ _ rfl (HOWN2.alloc _) ⟨w2.heap.size,0,none⟩ 1 1 [.int .u64 lb] rfl rfl ?c1 ?c2 ?c3 ?c4 ?c5 ?_)
  case c1 =>
   intro j u hj
   match j,hj with
   | 0,hj=>simp at hj;subst hj;simp [Addr.add]
  case c2=>intro u hu;simp at hu;subst hu;rfl
  case c3=>unfold maxLen;omega
  case c4=>omega
  case c5=>simp;omega
  intro v' w3 hown3 hgrow3 _
  have hb3:Below (w.heap.size+1) W0 w3:=(HB2.alloc oMx _).grown hgrow3 (by simp;omega) (fun g hg=>((HOWN2.lt g hg).1))
  have HOWN3:Hid (w3.ownsRow (w.heap.size+1) 126 1 v' (zPq n (k+1)).length ((zPq n (k+1)).map fun x:Nat=>Value.int .u64 (x:Int))):=by
   rw [ES.out];refine oH ?_
   simpa using hown3
  have HB3:=oH hb3;clear hown3 hgrow3 hb3;go_wp2_with fail;go_roundw
  ·exact ⟨k+1,by go_num,oMx,HOWN3.out,HB3.out⟩
  simp [intOf];omega
 obtain ⟨A,c,rfl,hlc,hcl⟩:=zUo HOWN.out;have hll:=zPr n k;have HTR:=oH (xDh A (zPq n k) c wr hcl oMx hlc);rw [zPu (zQv oMx)] at HTR;have HCT:=oH (hcl.take (xDa (zPq n k)).length);rw [<-xDe,zPu (zQv oMx)] at HCT
 have hnl:(limbs n).length<=c:=by
  have h1:=xDb (zPq n k);rw [zPu (zQv oMx)] at h1;omega
 have hnk:(limbs n).length<=10000000:=by
  have h1:=xDb (zPq n k);rw [zPu (zQv oMx)] at h1;omega
 have HLL:=oH hll;clear hcl hll HOWN hi hz0 hz1 hz2;go_wp2_with fail;refine HTR.mono ?_;rintro e w' ⟨rfl,rfl⟩;clear HTR;go_wp2_with fail;refine (zTb na _ n _ (zBr.mk hnl HCT.out) oMx).mono ?_
 intro e w3 hret
 obtain ⟨A3,c3,rfl,hl3,hc3,hb3⟩:=hret.num
 have hrw:Below W0.heap.size W0 wr:=by rw [HS0.out];exact HBR.out
 have HR3:=oH ((HR.below hrw).below hb3);have HC3:=oH hc3;have HB3:=oH ((HB0.trans (hrw.mono HB0.size)).trans (hb3.mono oMx));have hr0:=HR3.r0;have hr1:=HR3.r1;have hf0:=HR3.f 0;have hf1:=HR3.f 1;clear hret hc3 hb3 hrw;go_wp2_with fail;refine bodyPost_ret (v := .agg #[.bool (decide (sgn na n<0)),.slice A3 (limbs (sgn na n).natAbs).length c3]) (by simp [results,Tryz.results108,go_sem,hr0,hr1]) rfl ?_;exact HR3.end_ HB3.out lRx HC3.out hl3 HSG.out
end Go.Proofs.YtbjaplppalcmgaaGreatDoor
