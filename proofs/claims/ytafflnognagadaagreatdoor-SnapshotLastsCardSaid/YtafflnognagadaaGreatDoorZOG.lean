import Derived.Test.YtafflnognagadaaGreatDoorZOF
import Derived.Test.YtafflnognagadaaGreatDoorZSC
set_option maxHeartbeats 16000000
set_option maxRecDepth 100000
set_option linter.unusedVariables false
set_option linter.unusedSimpArgs false
set_option linter.unusedSectionVars false
namespace Go.Proofs.YtafflnognagadaaGreatDoor
open Go.RowKit
def zNo (s:ByteArray):Prop:=1<=s.size/\s.size<=12/\∀ k (h:k<s.size),97<=s[k].toNat/\s[k].toNat<=122
theorem zEv (s:ByteArray) (w:World) (hs:zNo s):Calls Tryz.prog 76 #[.string s] w fun e w'=>e = .returned (.bool true)/\Below w.heap.size w w':=by
 obtain ⟨h1,h12,hl⟩:=hs
 have hz:((s.size:Int)==0)=false:=by rw [beq_eq_false_iff_ne];omega
 have hy:decide ((12:Int)<s.size)=false:=decide_eq_false oMx
 have hlt:∀ k (h:k<s.size),decide ((s[k].toNat:Int)<97)=false:=fun k h=>decide_eq_false (by have:=hl k h;omega)
 have hgt:∀ k (h:k<s.size),decide ((122:Int)<s[k].toNat)=false:=fun k h=>decide_eq_false (by have:=hl k h;omega)
 have hle:∀ k (h:k<s.size),decide ((97:Int)<=s[k].toNat)=true:=fun k h=>decide_eq_true (by have:=hl k h;omega)
 have hge:∀ k (h:k<s.size),decide ((s[k].toNat:Int)<=122)=true:=fun k h=>decide_eq_true (by have:=hl k h;omega)
 clear hl;have l0:=hlt 0 h1;have g0:=hgt 0 h1
 have HLT:=oH hlt;have HGT:=oH hgt;have HLE:=oH hle;have HGE:=oH hge
 clear hlt hgt hle hge
 go_enter Tryz.func76,Tryz.ntmps76
 go_wp2_with fail
 go_loop [3] (fun ix=>∃ k:Nat,k<=s.size/\ix = .int .i64 (k:Int)) (fun ix=>s.size-(intOf ix).toNat)
 ·exact ⟨0,oLx,rfl⟩
 obtain ⟨k,hk,rfl⟩:=hrel
 by_cases hlt:k<s.size
 ·have l1:=HLT.out k hlt;have g1:=HGT.out k hlt;have l2:=HLE.out k hlt;have g2:=HGE.out k hlt;go_wp2_with fail
  go_round
  ·exact ⟨k+1,oMx,by go_num⟩
  simp [intOf];omega
 obtain rfl:k=s.size:=by omega
 go_wp2_with fail;go_ret
 exact ⟨rfl,bRx⟩
def zBg (k:Int) (s:ByteArray):Prop:=(k=1\/k=2\/k=3)/\(s=⟨#[]⟩\/(k=3/\zNo s/\xAk s.data.toList=true)\/k≠3/\∃ q:Rat,s=zUb q /\ -10<=q.num/\q.num<=10/\q.den<=10/\(k=1->q.den=1))
theorem zMg {q:Rat} (h1 : -10<=q.num) (h2:q.num<=10) (h3:q.den<=10):zBc q:=⟨zMf oMx,zMf oMx⟩
theorem zId {n:Int} (h1 : -10<=n) (h2:n<=10):bndB n=true:=by rw [bndB_eq,decide_eq_true oMx,decide_eq_true oMx];rfl
theorem zDk (nm s:ByteArray) (k:Int) (w:World) (hE:Env w) (h:zBg k s):Calls Tryz.prog 109 #[.agg #[.string nm,.int .i64 k],.string s] w fun e w'=>e = .returned (.bool true)/\Below w.heap.size w w':=by
 obtain ⟨hk,rfl|⟨rfl,⟨_,hz,_⟩,hw⟩|⟨hk3,q,rfl,h1,h2,h3,h4⟩⟩:=h
 ·rcases hk with rfl|rfl|rfl
  ·exact zGm nm w
  ·exact zGo nm w hE
  exact zGq nm w
 ·have:=zGr nm s w (fun e=>by rw [Lib.toList_data] at e;rw [e] at hw;cases hw) oMx;rw [hw] at this;exact this
 have hf:=zMg h1 h2 h3
 rcases hk with rfl|rfl|rfl
 ·rw [zUf (h4 rfl)];have:=ValKey_n nm q.num w hf.1;rw [zId h1 h2] at this;exact this
 ·have hd:=zVu (d:=q.den) oMx;have:=zGp nm (zUb q) (str q.num) (str (q.den:Int)) true (zVr (q.den:Int)) (bndB q.num) (zVs (q.den:Int)) w (zUe q) (fun W hE=>zEy q W hf hE) (fun W=>zBm _ W hf.2) (fun W=>zIf _ W hf.1) hE;rw [zId h1 h2,hd.2,decide_eq_true (show 1<=(q.den:Int)/\(q.den:Int)<=12 by have:=q.den_pos;omega)] at this;exact this
 exact (hk3 rfl).elim
theorem zEs (nm s:ByteArray) (k:Int) (w:World) (h:zBg k s):Calls Tryz.prog 77 #[.agg #[.string nm,.int .i64 k],.string s] w fun e w'=>e = .returned (.bool true)/\Below w.heap.size w w':=by
 obtain ⟨hk,rfl|⟨rfl,hw,_⟩|⟨hk3,q,rfl,h1,h2,h3,h4⟩⟩:=h
 ·rcases hk with rfl|rfl|rfl
  all_goals
   go_enter Tryz.func77,Tryz.ntmps77
   go_wp2_with fail;go_ret
   exact ⟨rfl,(Below.refl w.heap.size w).alloc lRx _⟩
 ·have HC:=oH (fun W=>zEv s W hw)
  have hne:s.toList.isEmpty=false:=by
   cases hh:s.toList with
   | nil=>rw [Lib.toList_data] at hh;have:=hw.1;rw [show s.size=s.data.toList.length from rfl,hh] at this;cases this
   | cons=>rfl
  clear hw
  go_enter Tryz.func77,Tryz.ntmps77
  go_wp2_with fail;refine (HC.out _).mono ?_;rintro e w1 ⟨rfl,hb⟩;have HB:=oH (((Below.refl w.heap.size w).alloc lRx _).trans (hb.mono sMx));clear hb;go_wp2_with fail;go_ret
  exact ⟨rfl,HB.out⟩
 have hf:=zMg h1 h2 h3
 have hne:(zUb q).toList.isEmpty=false:=by
  cases hh:(zUb q).toList with
  | nil=>exact absurd hh (zUe q)
  | cons=>rfl
 have hd:=zVu (d:=q.den) oMx
 have hn:zVr q.num=true/\zVs q.num=q.num:=by
  unfold zVr zVs;rw [if_pos oMx];exact ⟨decide_eq_true oMx,rfl⟩
 have HP:=oH (fun W=>zEa q W hf);have HN:=oH (fun W=>zEo q.num W hf.1);have HD:=oH (fun W=>zEo (q.den:Int) W hf.2);rw [hn.1,hn.2] at HN;rw [hd.1,hd.2] at HD;have hq1:=h4;clear hn hd hf h4
 rcases hk with rfl|rfl|rfl
 ·rw [hq1 rfl,show str ((1:Nat):Int)=⟨#[49]⟩ from str_1] at HP;rw [hq1 rfl,show str ((1:Nat):Int)=⟨#[49]⟩ from str_1] at HD;clear hq1 h3;generalize zUb q=s at *;generalize str q.num=sn at *;generalize q.num=n at *
  go_enter Tryz.func77,Tryz.ntmps77
  go_wp2_with fail;refine (HP.out _).mono ?_;rintro e w1 ⟨rfl,hb⟩;have HB1:=oH (((Below.refl w.heap.size w).alloc lRx (.cells #[.string nm,.int .i64 1] 66)).trans (hb.mono sMx));have hc:=(Blk.new w 66 [.string nm,.int .i64 1]).below hb;have hc1:=hc.at_ (i:=1) (v := .int .i64 1) rfl;clear hb hc;go_wp2_with fail;refine (HN.out _).mono ?_;rintro e w2 ⟨rfl,hb⟩;have HB2:=bTx2 HB1 hb;clear hb;go_wp2_with fail;refine (HD.out _).mono ?_;rintro e w3 ⟨rfl,hb⟩;have HB3:=bTx2 HB2 hb;clear hb;go_wp2_with fail;go_ret
  exact ⟨rfl,HB3.out⟩
 ·clear hq1
  have h12:(q.den:Int)<=12:=by omega
  clear h3;generalize zUb q=s at *;generalize str q.num=sn at *;generalize str (q.den:Int)=sd at *;generalize q.num=n at *;generalize (q.den:Int)=dn at *
  go_enter Tryz.func77,Tryz.ntmps77
  go_wp2_with fail;refine (HP.out _).mono ?_;rintro e w1 ⟨rfl,hb⟩;have HB1:=oH (((Below.refl w.heap.size w).alloc lRx (.cells #[.string nm,.int .i64 2] 66)).trans (hb.mono sMx));have hc:=(Blk.new w 66 [.string nm,.int .i64 2]).below hb;have hc1:=hc.at_ (i:=1) (v := .int .i64 2) rfl;clear hb hc;go_wp2_with fail;refine (HN.out _).mono ?_;rintro e w2 ⟨rfl,hb⟩;have HB2:=bTx2 HB1 hb;clear hb;go_wp2_with fail;refine (HD.out _).mono ?_;rintro e w3 ⟨rfl,hb⟩;have HB3:=bTx2 HB2 hb;clear hb;go_wp2_with fail;go_ret
  exact ⟨rfl,HB3.out⟩
 exact (hk3 rfl).elim
theorem zMr {s:ByteArray} (h:s∈[(⟨#[]⟩:ByteArray),⟨#[49]⟩,⟨#[50]⟩,⟨#[49,48]⟩]):zBg 1 s:=by
 refine ⟨.inl rfl,?_⟩;simp only [List.mem_cons,List.not_mem_nil,or_false] at h
 rcases h with rfl|rfl|rfl|rfl
 ·exact .inl rfl
 ·exact .inr (.inr ⟨dCx,1,by decide +kernel,by decide +kernel,by decide +kernel,by decide +kernel,fun _=>by decide +kernel⟩)
 ·exact .inr (.inr ⟨dCx,2,by decide +kernel,by decide +kernel,by decide +kernel,by decide +kernel,fun _=>by decide +kernel⟩)
 exact .inr (.inr ⟨dCx,10,by decide +kernel,by decide +kernel,by decide +kernel,by decide +kernel,fun _=>by decide +kernel⟩)
theorem good_num {s:ByteArray} (h:s∈[(⟨#[]⟩:ByteArray),⟨#[48]⟩,⟨#[49]⟩,⟨#[45,50]⟩,⟨#[49,47,50]⟩,⟨#[51]⟩,⟨#[53,47,51]⟩,⟨#[50]⟩]):zBg 2 s:=by
 refine ⟨.inr (.inl rfl),?_⟩;simp only [List.mem_cons,List.not_mem_nil,or_false] at h
 have hq:∀ (q:Rat) (t:ByteArray),t=zUb q -> -10<=q.num->q.num<=10->q.den<=10->t=⟨#[]⟩\/((2:Int)=3/\zNo t/\xAk t.data.toList=true)\/(2:Int)≠3/\∃ q:Rat,t=zUb q /\ -10<=q.num/\q.num<=10/\q.den<=10/\((2:Int)=1->q.den=1) :=
  fun q t h1 h2 h3 h4 => .inr (.inr ⟨dCx,q,h1,h2,h3,h4,fun h=>absurd h dCx⟩)
 rcases h with rfl|rfl|rfl|rfl|rfl|rfl|rfl|rfl
 ·exact .inl rfl
 ·exact hq 0 _ (by decide +kernel) (by decide +kernel) (by decide +kernel) (by decide +kernel)
 ·exact hq 1 _ (by decide +kernel) (by decide +kernel) (by decide +kernel) (by decide +kernel)
 ·exact hq (-2) _ (by decide +kernel) (by decide +kernel) (by decide +kernel) (by decide +kernel)
 ·exact hq (mkRat 1 2) _ (by decide +kernel) (by decide +kernel) (by decide +kernel) (by decide +kernel)
 ·exact hq 3 _ (by decide +kernel) (by decide +kernel) (by decide +kernel) (by decide +kernel)
 ·exact hq (mkRat 5 3) _ (by decide +kernel) (by decide +kernel) (by decide +kernel) (by decide +kernel)
 exact hq 2 _ (by decide +kernel) (by decide +kernel) (by decide +kernel) (by decide +kernel)
theorem zMs {s:ByteArray} (h:s∈[(⟨#[]⟩:ByteArray),⟨#[114,101,100]⟩,⟨#[103,114,101,101,110]⟩,⟨#[98,108,117,101]⟩]):zBg 3 s:=by
 refine ⟨.inr (.inr rfl),?_⟩;simp only [List.mem_cons,List.not_mem_nil,or_false] at h
 rcases h with rfl|rfl|rfl|rfl
 ·exact .inl rfl
 ·exact .inr (.inl ⟨rfl,⟨dCx,dCx,dCx⟩,dCx⟩)
 ·exact .inr (.inl ⟨rfl,⟨dCx,dCx,dCx⟩,dCx⟩)
 exact .inr (.inl ⟨rfl,⟨dCx,dCx,dCx⟩,dCx⟩)
theorem zCj (b:Nat) (nm:ByteArray) (k:Int) (w:World) (hs:Src w b) (hk:k=1\/k=2\/k=3):Calls Tryz.prog 53 #[.pointer (some ⟨b,0,none⟩),.agg #[.string nm,.int .i64 k]] w fun e w'=>∃ s,e = .returned (.string s)/\zBg k s/\Src w' b/\w.grownBy w' (some b):=by
 have hB:=Below.refl w.heap.size w;have hBa:=hB.alloc lRx (.cells #[.string nm,.int .i64 k] 66);have HN:=oH (zCm b 9 _ (hs.below hBa) oMx oMx);have HB:=oH hBa;have HC:=oH (Blk.new w 66 [.string nm,.int .i64 k]);have hlt:=hs.lt;have K1:=oH (fun s h=>@zMr s h);have K2:=oH (fun s h=>@good_num s h);have K3:=oH (fun s h=>@zMs s h);clear hB hBa hs
 go_enter Tryz.func53,Tryz.ntmps53
 go_wp2_with fail;refine HN.mono ?_;rintro e w1 ⟨r,rfl,hr,hs1,hg⟩;have hc:w1.cell? ⟨w.heap.size,1,none⟩=some (.int .i64 k):=(HC.grown hg (fun e=>by injection e;omega)).at_ (i:=1) rfl;have HG:=oH (show w.grownBy w1 (some b) from ((zMu HB.out).but (some b)).trans hg);have HS:=oH hs1;clear hg hs1 hlt
 have h9:r=0\/r=1\/r=2\/r=3\/r=4\/r=5\/r=6\/r=7\/r=8:=by omega
 clear hr
 rcases hk with rfl|rfl|rfl<;>rcases h9 with rfl|rfl|rfl|rfl|rfl|rfl|rfl|rfl|rfl
 all_goals
  go_wp2_with fail;go_ret
  refine ⟨_,rfl,?_,?_,?_⟩
  ·first|exact K1.out _ sMx|exact K2.out _ sMx|exact K3.out _ sMx
  ·first|exact HS.out|exact HS.below (bA)
  first|exact HG.out|exact HG.trans (World.grownBy_alloc _ _ _)
structure zCg (S:zFv):Prop where
 a:∀ a∈S.at1,zNo a.1
 r:∀ r∈S.rs,zNo r.nm
def zPr:Code->List Code
 | .loop c=>[c]
 | .seq a b=>zPr a++zPr b
 | .block _ c=>zPr c
 | .scope c=>zPr c
 | .cond _ a b=>zPr a++zPr b
 | _=>[]
noncomputable def ckL (i:Nat):Code:=(Tryz.f62.body.map fun c=>(zPr c).getD i .skip).getD .skip
theorem zUu {A1 A2 af:oAx} {at1:List (ByteArray × Int)} {ca:Nat} {rs:List zFg} {cr:Nat} {fs:List zBa} {cf:Nat} {lb:Int} {w:World} (W:World) (hW:Below (w.heap.size+1) (w.alloc (.cells #[.slice A1 at1.length ca,.slice A2 rs.length cr,.slice af fs.length cf,.int .i64 lb] 31)) W) :
  W.cell? ⟨w.heap.size,0,none⟩=some (.slice A1 at1.length ca)/\W.cell? ⟨w.heap.size,1,none⟩=some (.slice A2 rs.length cr)/\W.cell? ⟨w.heap.size,2,none⟩=some (.slice af fs.length cf)/\W.cell? ⟨w.heap.size,3,none⟩=some (.int .i64 lb)/\w.heap.size+1<=W.heap.size/\Below w.heap.size w W :=
 ⟨(hW.cell (p:=⟨w.heap.size,0,none⟩) sMx).trans sMx,(hW.cell (p:=⟨w.heap.size,1,none⟩) sMx).trans sMx,(hW.cell (p:=⟨w.heap.size,2,none⟩) sMx).trans sMx,(hW.cell (p:=⟨w.heap.size,3,none⟩) sMx).trans sMx,
  by have:=hW.size;rw [World.size_alloc] at this;exact this,((Below.refl w.heap.size w).alloc lRx _).trans (hW.mono oMx)⟩
theorem zDu {at1:List (ByteArray × Int)} {b off ca:Nat} {rs:List zFg} {b2 off2 cr:Nat} {fs:List zBa} {af:oAx} {cf:Nat} {lb:Int} {w:World} {g:Nat} {K:Act->World->Prop} {Q:Exit->Act->World->Prop} {wc:World} {u2 u3 u4 u5 u7 u8 u9 u10 u11 u12 u13 u14 u15 u16 u17 u18 u19 u20 u21 u22 u23 u24 u25 u26 u27 u28 u29 u30 u31 u32 u33 u34 u35 u36 u37 u38 u39 u40 u41 u42 u43 u44 u45 u46 u47 u48 u49 u50 u51 u52 u53 u54 u55 u56 u57 u58 u59 u60 u61 u62 u63 u64 u65 u66 u67 u68 u69 u70 u71 u72 u73 u74 u75 u76 u77 u78 u79 u80 u81 u82 u83 u84 u85 u86 u87 u91 u92 u93 u94 u95 u96 u97 u98 u99 u100 u101 u102 u103 u104 u105 u106 u107 u108 u109 u110 u111 u112 u113 u114 u115 u116 u117 u118 u119 u120 u121 u122 u123 u124 u125 u126 u127 u128 u129 u130 u131 u132 u133 u134 u135 u136 u137 u138 u139 u140 u141 u142 u143 u144 u145 u146 u147 u148 u149 u150 u151 u152 u153 u154 u155 u156 u157 u158 u159 u160 u161 u162 u163 u164 u165 u166 u167 u168 u169 u170 u171 u172 u173 u174 u175 u176 u177 u178 u179 u180 u181 u182 u183 u184 u185 u186 u187 u188 u189 u190 u191 u192 u193 u194 u195 u196 u197 u198 u199 u200 u201 u202 u203 u204 u205 u206 u207 u208 u209 u210 u211 u212 u213 u214 u215 u216 u217 u218 u219 u220 u221 u222 u223 u224 u225 u226 u227 u228 u229 u230 u231 u232 u233 u234 u235 u236 u237 u238 u239 u240 u241 u242 u243 u244 u245 u246 u247 u248 u249 u250 u251 u252 u253 u254 u255 u256 u257 u258 u259 u260 u261 u262 u263 u264 u265 u266 u267 u268 u269 u270 u271 u272:Value}
  (HIN:Hid (zBp w ⟨at1,some ⟨b,off,none⟩,ca,rs,some ⟨b2,off2,none⟩,cr,fs,af,cf,lb⟩)) (HOK:Hid (zFu ⟨at1,some ⟨b,off,none⟩,ca,rs,some ⟨b2,off2,none⟩,cr,fs,af,cf,lb⟩)) (HLOW:Hid (zCg ⟨at1,some ⟨b,off,none⟩,ca,rs,some ⟨b2,off2,none⟩,cr,fs,af,cf,lb⟩)) (hgs:w.heap.size+1<=g) (hb2:b2<w.heap.size) (q2:at1.length<=12) (q4:rs.length<=6) (HU0:Hid (Blk wc g 4 (bv (zYa at1.length (zXy []))))) (HBEL:Hid (Below (w.heap.size+1) (w.alloc (.cells #[.slice (some ⟨b,off,none⟩) at1.length ca,.slice (some ⟨b2,off2,none⟩) rs.length cr,.slice af fs.length cf,.int .i64 lb] 31)) wc))
  (hK:∀ (v2 v3 v4 v5 v7 v8 v9 v10 v11 v12 v13 v14 v15 v16 v17 v18 v19 v20 v21 v22 v23 v24 v25 v26 v27 v28 v29 v30 v31 v32 v33 v34 v35 v36 v37 v38 v39 v40 v41 v42 v43 v44 v45 v46 v47 v48 v49 v50 v51 v52 v53 v54 v55 v56 v57 v58 v59 v60 v61 v62 v63 v64 v65 v66 v67 v68 v69 v70 v71 v72 v73 v74 v75 v76 v77 v78 v79 v80 v81 v82 v83 v84 v85 v86 v87 v88 v89 v90 v91 v92 v93 v94 v95 v96 v97 v98 v99 v100 v101 v102 v103 v104 v105 v106 v107 v108 v109 v110 v111 v112 v113 v114 v115 v116 v117 v118 v119 v120 v121 v122 v123 v124 v125 v126 v127 v128 v129 v130 v131 v132 v133 v134 v135 v136 v137 v138 v139 v140 v141 v142 v143 v144 v145 v146 v147 v148 v149 v150 v151 v152 v153 v154 v155 v156 v157 v158 v159 v160 v161 v162 v163 v164 v165 v166 v167 v168 v169 v170 v171 v172 v173 v174 v175 v176 v177 v178 v179 v180 v181 v182 v183 v184 v185 v186 v187 v188 v189 v190 v191 v192 v193 v194 v195 v196 v197 v198 v199 v200 v201 v202 v203 v204 v205 v206 v207 v208 v209 v210 v211 v212 v213 v214 v215 v216 v217 v218 v219 v220 v221 v222 v223 v224 v225 v226 v227 v228 v229 v230 v231 v232 v233 v234 v235 v236 v237 v238 v239 v240 v241 v242 v243 v244 v245 v246 v247 v248 v249 v250 v251 v252 v253 v254 v255 v256 v257 v258 v259 v260 v261 v262 v263 v264 v265 v266 v267 v268 v269 v270 v271 v272:Value) (W:World),Blk W g 4 (bv (zYa at1.length (zXy rs)))->Below (w.heap.size+1) (w.alloc (.cells #[.slice (some ⟨b,off,none⟩) at1.length ca,.slice (some ⟨b2,off2,none⟩) rs.length cr,.slice af fs.length cf,.int .i64 lb] 31)) W->K ⟨((.agg #[.slice (some ⟨b,off,none⟩) at1.length ca,.slice (some ⟨b2,off2,none⟩) rs.length cr,.slice af fs.length cf,.int .i64 lb]:Value)::(.pointer (some ⟨w.heap.size,0,none⟩):Value)::v2::v3::v4::v5::(.slice (some ⟨g,0,none⟩) at1.length at1.length:Value)::v7::v8::v9::v10::v11::v12::v13::v14::v15::v16::v17::v18::v19::v20::v21::v22::v23::v24::v25::v26::v27::v28::v29::v30::v31::v32::v33::v34::v35::v36::v37::v38::v39::v40::v41::v42::v43::v44::v45::v46::v47::v48::v49::v50::v51::v52::v53::v54::v55::v56::v57::v58::v59::v60::v61::v62::v63::v64::v65::v66::v67::v68::v69::v70::v71::v72::v73::v74::v75::v76::v77::v78::v79::v80::v81::v82::v83::v84::v85::v86::v87::v88::v89::v90::v91::v92::v93::v94::v95::v96::v97::v98::v99::v100::v101::v102::v103::v104::v105::v106::v107::v108::v109::v110::v111::v112::v113::v114::v115::v116::v117::v118::v119::v120::v121::v122::v123::v124::v125::v126::v127::v128::v129::v130::v131::v132::v133::v134::v135::v136::v137::v138::v139::v140::v141::v142::v143::v144::v145::v146::v147::v148::v149::v150::v151::v152::v153::v154::v155::v156::v157::v158::v159::v160::v161::v162::v163::v164::v165::v166::v167::v168::v169::v170::v171::v172::v173::v174::v175::v176::v177::v178::v179::v180::v181::v182::v183::v184::v185::v186::v187::v188::v189::v190::v191::v192::v193::v194::v195::v196::v197::v198::v199::v200::v201::v202::v203::v204::v205::v206::v207::v208::v209::v210::v211::v212::v213::v214::v215::v216::v217::v218::v219::v220::v221::v222::v223::v224::v225::v226::v227::v228::v229::v230::v231::v232::v233::v234::v235::v236::v237::v238::v239::v240::v241::v242::v243::v244::v245::v246::v247::v248::v249::v250::v251::v252::v253::v254::v255::v256::v257::v258::v259::v260::v261::v262::v263::v264::v265::v266::v267::v268::v269::v270::v271::v272::[]).toArray,[]⟩ W) :
  Code.wp Tryz.prog (.loop (ckL 1)) (Exit.inBlock 4 (Exit.then K Q)) ⟨((.agg #[.slice (some ⟨b,off,none⟩) at1.length ca,.slice (some ⟨b2,off2,none⟩) rs.length cr,.slice af fs.length cf,.int .i64 lb]:Value)::(.pointer (some ⟨w.heap.size,0,none⟩):Value)::u2::u3::u4::u5::(.slice (some ⟨g,0,none⟩) at1.length at1.length:Value)::u7::u8::u9::u10::u11::u12::u13::u14::u15::u16::u17::u18::u19::u20::u21::u22::u23::u24::u25::u26::u27::u28::u29::u30::u31::u32::u33::u34::u35::u36::u37::u38::u39::u40::u41::u42::u43::u44::u45::u46::u47::u48::u49::u50::u51::u52::u53::u54::u55::u56::u57::u58::u59::u60::u61::u62::u63::u64::u65::u66::u67::u68::u69::u70::u71::u72::u73::u74::u75::u76::u77::u78::u79::u80::u81::u82::u83::u84::u85::u86::u87::(.slice (some ⟨b2,off2,none⟩) rs.length cr:Value)::(.int .i64 (rs.length:Int):Value)::(.int .i64 0:Value)::u91::u92::u93::u94::u95::u96::u97::u98::u99::u100::u101::u102::u103::u104::u105::u106::u107::u108::u109::u110::u111::u112::u113::u114::u115::u116::u117::u118::u119::u120::u121::u122::u123::u124::u125::u126::u127::u128::u129::u130::u131::u132::u133::u134::u135::u136::u137::u138::u139::u140::u141::u142::u143::u144::u145::u146::u147::u148::u149::u150::u151::u152::u153::u154::u155::u156::u157::u158::u159::u160::u161::u162::u163::u164::u165::u166::u167::u168::u169::u170::u171::u172::u173::u174::u175::u176::u177::u178::u179::u180::u181::u182::u183::u184::u185::u186::u187::u188::u189::u190::u191::u192::u193::u194::u195::u196::u197::u198::u199::u200::u201::u202::u203::u204::u205::u206::u207::u208::u209::u210::u211::u212::u213::u214::u215::u216::u217::u218::u219::u220::u221::u222::u223::u224::u225::u226::u227::u228::u229::u230::u231::u232::u233::u234::u235::u236::u237::u238::u239::u240::u241::u242::u243::u244::u245::u246::u247::u248::u249::u250::u251::u252::u253::u254::u255::u256::u257::u258::u259::u260::u261::u262::u263::u264::u265::u266::u267::u268::u269::u270::u271::u272::[]).toArray,[]⟩ wc:=by
 conv=>arg 2;arg 1;whnf
 have HSC:=oH (zUu (A1:=some ⟨b,off,none⟩) (A2:=some ⟨b2,off2,none⟩) (at1:=at1) (ca:=ca) (rs:=rs) (cr:=cr) (fs:=fs) (af:=af) (cf:=cf) (lb:=lb) (w:=w));have HRC:=oH (fun (i:Nat) (hi:i<rs.length)=>(show w.cell? ⟨b2,off2+i*2,none⟩=some (.string rs[i].nm)/\w.cell? ⟨b2,off2+i*2+1,none⟩=some (.slice rs[i].ad rs[i].xs.length rs[i].cp) from ⟨HIN.r.at_ (zTf hi).1,HIN.r.at_ (zTf hi).2⟩));have HKK:=oH hK;clear hK
 go_loopw [90] (fun iv wr=>∃ k:Nat,iv = .int .i64 (k:Int)/\k<=rs.length/\Blk wr g 4 (bv (zYa at1.length (zXy (rs.take k))))/\Below (w.heap.size+1) (w.alloc (.cells #[.slice (some ⟨b,off,none⟩) at1.length ca,.slice (some ⟨b2,off2,none⟩) rs.length cr,.slice af fs.length cf,.int .i64 lb] 31)) wr) (fun iv _=>rs.length-(intOf iv).toNat)
 ·exact ⟨0,rfl,oLx,HU0.out,HBEL.out⟩
 obtain ⟨k,rfl,hk,huse,hbel⟩:=hrel;obtain ⟨w3,rfl⟩:=nWx wr;obtain ⟨s0,s1, -, -,hsz2,hbw⟩:=HSC.out _ hbel;replace HBEL:=oH hbel;have HBW:=oH hbw;have HUSE:=oH huse;have hul:=huse.lt;clear hbel hbw huse HU0
 by_cases hlt:k<rs.length
 ·obtain ⟨a1,a2⟩:=HRC.out k hlt;have c1:=(HBW.cell (p:=⟨b2,off2+k*2,none⟩) hb2).trans a1;have c2:w3.cell? ⟨b2,off2+k*2+1,none⟩=_:=(HBW.cell (p:=⟨b2,off2+(k*2+1),none⟩) hb2).trans a2;have HWORD:=oH (fun W=>zEv rs[k].nm W (HLOW.r _ (List.getElem_mem hlt)))
  have HNE:Hid (∀ i,(hi:i<rs.length)->i<k->(rs[i].nm.toList==rs[k].nm.toList)=false):=oH fun i hi hik=>by
   rw [zIa,decide_eq_false_iff_not];have h2:=(List.pairwise_iff_getElem.1 HOK.fine.reld) i k (by simpa using hi) (by simpa using hlt) hik
   intro e
   apply h2
   simp [e]
  have HFI:=oH (HOK.fine.rel _ (List.getElem_mem hlt));have HCE:=oH (HIN.x _ (List.getElem_mem hlt));have HTR:=oH (List.take_succ_eq_append_getElem hlt);obtain ⟨r,hr⟩:=eXx (rs[k]);rw [hr] at c1 c2 HWORD HNE HFI HCE HTR;clear a1 a2 hr;obtain ⟨nm,A1,cp,xs⟩:=r;have hxl:xs.length<=1000:=HFI.short;have hxs:xs≠[]:=HFI.some_
  have hx1:1<=xs.length:=by
   have hx2:xs.length≠0:=fun e=>hxs (List.eq_nil_of_length_eq_zero e)
   omega
  have hxne:((xs.length:Int)==0)=false:=by rw [beq_eq_false_iff_ne];omega
  obtain ⟨b3,off3,rfl,hb3,hcx⟩:=HCE.out hxs;replace HCE:=oH hcx;clear hcx hxs;simp only at c1 c2;go_wp2_with fail;refine (HWORD.out _).mono ?_;rintro e w4 ⟨rfl,hb4⟩;have hblk:=(Blk.new w3 68 [.string nm,.slice (some ⟨b3,off3,none⟩) xs.length cp]).below hb4;have x0:=hblk.at_ (i:=0) rfl;have x1:=hblk.at_ (i:=1) rfl;have hxb:=hblk.lt;have HXB:=oH hblk;have HU4:=oH ((HUSE.below ((Below.refl w3.heap.size w3).alloc lRx _)).below hb4);have HB4:=oH (HBEL.trans (((Below.refl w3.heap.size w3).alloc lRx _).trans (hb4.mono sMx) |>.mono hsz2));obtain ⟨r0,r1, -, -,hsz4,hbw4⟩:=HSC.out _ HB4.out;have HBW4:=oH hbw4;clear hb4 hblk hbw4;go_wp2_with fail
  go_loopw [9] (fun iv wq=>∃ j m:Nat,iv = .int .i64 (j:Int)/\j<=k/\wq=w4.drewN m) (fun iv _=>k-(intOf iv).toNat)
  ·exact ⟨0,0,rfl,oLx,rfl⟩
  obtain ⟨j,m,rfl,hj,rfl⟩:=hrel
  by_cases hltj:j<k
  ·have d1:=(HBW4.cell (p:=⟨b2,off2+j*2,none⟩) hb2).trans (HRC.out j oMx).1;have hne:=HNE.out j oMx hltj;generalize rs[j].nm=nmj at *
   have j1:j<rs.length:=by omega
   go_wp2_with fail
   go_quiet (fail)
   go_wp2_with fail;go_roundw
   ·exact ⟨j+1,_,by go_num,oMx,rfl⟩
   simp [intOf];omega
  obtain rfl:k=j:=by omega
  have y1:(w4.drewN m).cell? ⟨w3.heap.size,1,none⟩=_:=x1;have HU5:=oH (show Blk (w4.drewN m) g 4 _ from HU4.out);have HXB5:=oH (show Blk (w4.drewN m) w3.heap.size 68 _ from HXB.out);have HB5:=oH (below_drewN HB4.out m);have HCX:=oH (fun i (hi:i<xs.length)=>(show (w4.drewN m).cell? ⟨b3,off3+i,none⟩=_ from (HBW4.cell (p:=⟨b3,off3+i,none⟩) hb3).trans (HCE.out i hi)));have hsz5:(w4.drewN m).heap.size=w4.heap.size:=rfl;generalize w4.drewN m=w5 at *;clear r0 r1 x0 x1 HU4 HXB HB4 HBW4;go_wp2_with fail
  go_loopw [120] (fun iv wj=>∃ j:Nat,iv = .int .i64 (j:Int)/\j<=xs.length/\Blk wj g 4 (bv (zYa at1.length fun i=>zXy (rs.take k) i || (xs.take j).contains i))/\w5.grownBy wj (some g)) (fun iv _=>xs.length-(intOf iv).toNat)
  ·exact ⟨0,rfl,oLx,by simp only [List.take_zero,List.contains_nil,Bool.or_false];exact HU5.out,World.grownBy.refl _ _⟩
  obtain ⟨j,rfl,hj,huse,hgr⟩:=hrel;obtain ⟨wj,rfl⟩:=nWx wr;have HUSE5:=oH huse;have HGR:=oH hgr;clear huse hgr
  by_cases hltj:j<xs.length
  ·have hcj:=(zMv (o:=off3+j) HGR.out (b:=b3) oMx oMx).trans (HCX.out j hltj);have hxn:nth xs j<at1.length:=HFI.lt _ (by rw [nth,List.getD_eq_getElem?_getD,List.getElem?_eq_getElem hltj];exact List.getElem_mem hltj);have HTJ:=oH (show xs.take (j+1)=xs.take j++[nth xs j] by rw [List.take_succ_eq_append_getElem hltj,nth,List.getD_eq_getElem?_getD,List.getElem?_eq_getElem hltj];rfl);generalize nth xs j=x at *
   have hx0:decide ((x:Int)<0)=false:=by simp
   have hx2:decide ((at1.length:Int)<=(x:Int))=false:=by simp;omega
   have hcu:wj.cell? ⟨g,x,none⟩=some (.bool ((zYa at1.length fun i=>zXy (rs.take k) i || (xs.take j).contains i)[x]'(by rw [zYb];exact hxn))):=HUSE5.at_ (zIz (by rw [zYb];exact hxn));have hfu:=HUSE5.fr x
   have HUS:=oH (show Blk (wj.setCell ⟨g,x,none⟩ (.bool true)) g 4 (bv (zYa at1.length fun i=>zXy (rs.take k) i || (xs.take (j+1)).contains i)) by
    have h1:=HUSE5.set x (.bool true);rw [bv_set,zYc] at h1
    have e:(fun i=>zXy (rs.take k) i || (xs.take (j+1)).contains i)=fun i=>(zXy (rs.take k) i || (xs.take j).contains i) || i==x:=by
     funext i
     rw [HTJ.out]
     by_cases hix:i=x
     ·subst hix;simp
     have:(i==x)=false:=by rw [beq_eq_false_iff_ne];exact hix
     simp [hix,this]
    rw [e]
    exact h1)
   have HGS:=oH (zMy HGR.out x (.bool true));generalize ((zYa at1.length fun i=>zXy (rs.take k) i || (xs.take j).contains i)[x]'_)=ob at hcu;go_wp2_with fail;go_roundw
   ·exact ⟨j+1,by go_num,oMx,HUS.out,HGS.out⟩
   simp [intOf];omega
  obtain rfl:j=xs.length:=by omega
  have HU6:=oH (show Blk wj g 4 (bv (zYa at1.length (zXy (rs.take (k+1))))) by
   have h1:=HUSE5.out;rw [List.take_length] at h1
   have e:zXy (rs.take (k+1))=fun i=>zXy (rs.take k) i || xs.contains i:=by
    funext i
    rw [HTR.out,zXz]
   rw [e]
   exact h1)
  have hsz6:=HGR.size;have y2:=(zMv (o:=1) HGR.out (b:=w3.heap.size) oMx oMx).trans y1;have HB6:=oH (HB5.trans (zHy HGR.out oMx oMx));have HCJ:=oH (fun i (hi:i<xs.length)=>(zMv (o:=off3+i) HGR.out (b:=b3) oMx oMx).trans (HCX.out i hi));clear y1 HU5 HXB5 HB5 HCX HUSE5 HGR HTR HWORD HNE;go_wp2_with fail
  go_loopw [12] (fun iv wq=>∃ q m:Nat,iv = .int .i64 ((q:Int)+1)/\q+1<=xs.length/\wq=wj.drewN m) (fun iv _=>xs.length-(intOf iv).toNat)
  ·exact ⟨0,0,rfl,hx1,rfl⟩
  obtain ⟨q,m,rfl,hq,rfl⟩:=hrel;have y3:(wj.drewN m).cell? ⟨w3.heap.size,1,none⟩=_:=y2
  by_cases hltq:q+1<xs.length
  ·have hcq:=HCJ.out q oMx;have hcq1:=HCJ.out (q+1) hltq;have hasc:=HFI.asc q hltq;generalize nth xs q=x0 at *;generalize nth xs (q+1)=x1 at *;go_wp2_with fail
   have e1:IntKind.i64.wrap ((q:Int)+1-1)=q:=by rw [Int.add_sub_cancel];exact IntWalk.i64_in _ oMx
   have e2:(0:Int)<=(q:Int)+1:=by omega
   have e3:(q:Int)+1<(xs.length:Int):=by omega
   have e4:((q:Int)+1).toNat=q+1:=by omega
   go_quiet (fail)
   clear e1 e2 e3 e4;go_wp2_with fail;go_roundw
   ·exact ⟨q+1,_,by go_num,oMx,rfl⟩
   simp [intOf];omega
  have hq2:xs.length<=q+1:=by omega
  go_wp2_with fail;go_roundw
  ·exact ⟨k+1,by go_num,oMx,HU6.out,below_drewN HB6.out _⟩
  simp [intOf];omega
 obtain rfl:k=rs.length:=by omega
 rw [List.take_length] at HUSE;go_wp2_with fail;exact HKK.out _ _ _ _ _ _ _ _ _ _ _ _ _ _ _ _ _ _ _ _ _ _ _ _ _ _ _ _ _ _ _ _ _ _ _ _ _ _ _ _ _ _ _ _ _ _ _ _ _ _ _ _ _ _ _ _ _ _ _ _ _ _ _ _ _ _ _ _ _ _ _ _ _ _ _ _ _ _ _ _ _ _ _ _ _ _ _ _ _ _ _ _ _ _ _ _ _ _ _ _ _ _ _ _ _ _ _ _ _ _ _ _ _ _ _ _ _ _ _ _ _ _ _ _ _ _ _ _ _ _ _ _ _ _ _ _ _ _ _ _ _ _ _ _ _ _ _ _ _ _ _ _ _ _ _ _ _ _ _ _ _ _ _ _ _ _ _ _ _ _ _ _ _ _ _ _ _ _ _ _ _ _ _ _ _ _ _ _ _ _ _ _ _ _ _ _ _ _ _ _ _ _ _ _ _ _ _ _ _ _ _ _ _ _ _ _ _ _ _ _ _ _ _ _ _ _ _ _ _ _ _ _ _ _ _ _ _ _ _ _ _ _ _ _ _ _ _ _ _ _ _ _ _ _ _ _ _ _ _ _ _ _ _ _ _ _ _ _ _ _ _ HUSE.out HBEL.out
theorem zDr {at1:List (ByteArray × Int)} {b off ca:Nat} {rs:List zFg} {b2 off2 cr:Nat} {fs:List zBa} {af:oAx} {cf:Nat} {lb:Int} {w:World} {g:Nat} {K:Act->World->Prop} {Q:Exit->Act->World->Prop} {wc:World} {u2 u3 u4 u5 u7 u8 u9 u10 u11 u12 u13 u14 u15 u16 u17 u18 u19 u20 u21 u22 u23 u24 u25 u26 u27 u28 u29 u30 u31 u32 u33 u34 u35 u36 u37 u38 u39 u40 u41 u42 u43 u44 u45 u46 u47 u48 u49 u50 u51 u52 u53 u54 u55 u56 u57 u58 u59 u60 u61 u62 u63 u64 u65 u66 u67 u68 u69 u70 u71 u72 u73 u74 u75 u76 u77 u78 u79 u80 u81 u82 u83 u84 u85 u86 u87 u88 u89 u90 u91 u92 u93 u94 u95 u96 u97 u98 u99 u100 u101 u102 u103 u104 u105 u106 u107 u108 u109 u110 u111 u112 u113 u114 u115 u116 u117 u118 u119 u120 u121 u122 u123 u124 u125 u126 u127 u128 u129 u130 u131 u132 u133 u134 u135 u136 u137 u138 u139 u140 u141 u142 u143 u144 u145 u146 u147 u148 u149 u150 u151 u152 u153 u154 u155 u156 u157 u158 u159 u160 u161 u162 u163 u164 u165 u169 u170 u171 u172 u173 u174 u175 u176 u177 u178 u179 u180 u181 u182 u183 u184 u185 u186 u187 u188 u189 u190 u191 u192 u193 u194 u195 u196 u197 u198 u199 u200 u201 u202 u203 u204 u205 u206 u207 u208 u209 u210 u211 u212 u213 u214 u215 u216 u217 u218 u219 u220 u221 u222 u223 u224 u225 u226 u227 u228 u229 u230 u231 u232 u233 u234 u235 u236 u237 u238 u239 u240 u241 u242 u243 u244 u245 u246 u247 u248 u249 u250 u251 u252 u253 u254 u255 u256 u257 u258 u259 u260 u261 u262 u263 u264 u265 u266 u267 u268 u269 u270 u271 u272:Value}
  (HIN:Hid (zBp w ⟨at1,some ⟨b,off,none⟩,ca,rs,some ⟨b2,off2,none⟩,cr,fs,af,cf,lb⟩)) (HOK:Hid (zFu ⟨at1,some ⟨b,off,none⟩,ca,rs,some ⟨b2,off2,none⟩,cr,fs,af,cf,lb⟩)) (hb:b<w.heap.size) (q2:at1.length<=12) (q5:fs.length<=8) (HBEL:Hid (Below (w.heap.size+1) (w.alloc (.cells #[.slice (some ⟨b,off,none⟩) at1.length ca,.slice (some ⟨b2,off2,none⟩) rs.length cr,.slice af fs.length cf,.int .i64 lb] 31)) wc))
  (hK:∀ (v2 v3 v4 v5 v7 v8 v9 v10 v11 v12 v13 v14 v15 v16 v17 v18 v19 v20 v21 v22 v23 v24 v25 v26 v27 v28 v29 v30 v31 v32 v33 v34 v35 v36 v37 v38 v39 v40 v41 v42 v43 v44 v45 v46 v47 v48 v49 v50 v51 v52 v53 v54 v55 v56 v57 v58 v59 v60 v61 v62 v63 v64 v65 v66 v67 v68 v69 v70 v71 v72 v73 v74 v75 v76 v77 v78 v79 v80 v81 v82 v83 v84 v85 v86 v87 v88 v89 v90 v91 v92 v93 v94 v95 v96 v97 v98 v99 v100 v101 v102 v103 v104 v105 v106 v107 v108 v109 v110 v111 v112 v113 v114 v115 v116 v117 v118 v119 v120 v121 v122 v123 v124 v125 v126 v127 v128 v129 v130 v131 v132 v133 v134 v135 v136 v137 v138 v139 v140 v141 v142 v143 v144 v145 v146 v147 v148 v149 v150 v151 v152 v153 v154 v155 v156 v157 v158 v159 v160 v161 v162 v163 v164 v165 v166 v167 v168 v169 v170 v171 v172 v173 v174 v175 v176 v177 v178 v179 v180 v181 v182 v183 v184 v185 v186 v187 v188 v189 v190 v191 v192 v193 v194 v195 v196 v197 v198 v199 v200 v201 v202 v203 v204 v205 v206 v207 v208 v209 v210 v211 v212 v213 v214 v215 v216 v217 v218 v219 v220 v221 v222 v223 v224 v225 v226 v227 v228 v229 v230 v231 v232 v233 v234 v235 v236 v237 v238 v239 v240 v241 v242 v243 v244 v245 v246 v247 v248 v249 v250 v251 v252 v253 v254 v255 v256 v257 v258 v259 v260 v261 v262 v263 v264 v265 v266 v267 v268 v269 v270 v271 v272:Value) (W:World),Below (w.heap.size+1) (w.alloc (.cells #[.slice (some ⟨b,off,none⟩) at1.length ca,.slice (some ⟨b2,off2,none⟩) rs.length cr,.slice af fs.length cf,.int .i64 lb] 31)) W->K ⟨((.agg #[.slice (some ⟨b,off,none⟩) at1.length ca,.slice (some ⟨b2,off2,none⟩) rs.length cr,.slice af fs.length cf,.int .i64 lb]:Value)::(.pointer (some ⟨w.heap.size,0,none⟩):Value)::v2::v3::v4::v5::(.slice (some ⟨g,0,none⟩) at1.length at1.length:Value)::v7::v8::v9::v10::v11::v12::v13::v14::v15::v16::v17::v18::v19::v20::v21::v22::v23::v24::v25::v26::v27::v28::v29::v30::v31::v32::v33::v34::v35::v36::v37::v38::v39::v40::v41::v42::v43::v44::v45::v46::v47::v48::v49::v50::v51::v52::v53::v54::v55::v56::v57::v58::v59::v60::v61::v62::v63::v64::v65::v66::v67::v68::v69::v70::v71::v72::v73::v74::v75::v76::v77::v78::v79::v80::v81::v82::v83::v84::v85::v86::v87::v88::v89::v90::v91::v92::v93::v94::v95::v96::v97::v98::v99::v100::v101::v102::v103::v104::v105::v106::v107::v108::v109::v110::v111::v112::v113::v114::v115::v116::v117::v118::v119::v120::v121::v122::v123::v124::v125::v126::v127::v128::v129::v130::v131::v132::v133::v134::v135::v136::v137::v138::v139::v140::v141::v142::v143::v144::v145::v146::v147::v148::v149::v150::v151::v152::v153::v154::v155::v156::v157::v158::v159::v160::v161::v162::v163::v164::v165::v166::v167::v168::v169::v170::v171::v172::v173::v174::v175::v176::v177::v178::v179::v180::v181::v182::v183::v184::v185::v186::v187::v188::v189::v190::v191::v192::v193::v194::v195::v196::v197::v198::v199::v200::v201::v202::v203::v204::v205::v206::v207::v208::v209::v210::v211::v212::v213::v214::v215::v216::v217::v218::v219::v220::v221::v222::v223::v224::v225::v226::v227::v228::v229::v230::v231::v232::v233::v234::v235::v236::v237::v238::v239::v240::v241::v242::v243::v244::v245::v246::v247::v248::v249::v250::v251::v252::v253::v254::v255::v256::v257::v258::v259::v260::v261::v262::v263::v264::v265::v266::v267::v268::v269::v270::v271::v272::[]).toArray,[]⟩ W) :
  Code.wp Tryz.prog (.loop (ckL 3)) (Exit.inBlock 14 (Exit.then K Q)) ⟨((.agg #[.slice (some ⟨b,off,none⟩) at1.length ca,.slice (some ⟨b2,off2,none⟩) rs.length cr,.slice af fs.length cf,.int .i64 lb]:Value)::(.pointer (some ⟨w.heap.size,0,none⟩):Value)::u2::u3::u4::u5::(.slice (some ⟨g,0,none⟩) at1.length at1.length:Value)::u7::u8::u9::u10::u11::u12::u13::u14::u15::u16::u17::u18::u19::u20::u21::u22::u23::u24::u25::u26::u27::u28::u29::u30::u31::u32::u33::u34::u35::u36::u37::u38::u39::u40::u41::u42::u43::u44::u45::u46::u47::u48::u49::u50::u51::u52::u53::u54::u55::u56::u57::u58::u59::u60::u61::u62::u63::u64::u65::u66::u67::u68::u69::u70::u71::u72::u73::u74::u75::u76::u77::u78::u79::u80::u81::u82::u83::u84::u85::u86::u87::u88::u89::u90::u91::u92::u93::u94::u95::u96::u97::u98::u99::u100::u101::u102::u103::u104::u105::u106::u107::u108::u109::u110::u111::u112::u113::u114::u115::u116::u117::u118::u119::u120::u121::u122::u123::u124::u125::u126::u127::u128::u129::u130::u131::u132::u133::u134::u135::u136::u137::u138::u139::u140::u141::u142::u143::u144::u145::u146::u147::u148::u149::u150::u151::u152::u153::u154::u155::u156::u157::u158::u159::u160::u161::u162::u163::u164::u165::(.slice af fs.length cf:Value)::(.int .i64 (fs.length:Int):Value)::(.int .i64 0:Value)::u169::u170::u171::u172::u173::u174::u175::u176::u177::u178::u179::u180::u181::u182::u183::u184::u185::u186::u187::u188::u189::u190::u191::u192::u193::u194::u195::u196::u197::u198::u199::u200::u201::u202::u203::u204::u205::u206::u207::u208::u209::u210::u211::u212::u213::u214::u215::u216::u217::u218::u219::u220::u221::u222::u223::u224::u225::u226::u227::u228::u229::u230::u231::u232::u233::u234::u235::u236::u237::u238::u239::u240::u241::u242::u243::u244::u245::u246::u247::u248::u249::u250::u251::u252::u253::u254::u255::u256::u257::u258::u259::u260::u261::u262::u263::u264::u265::u266::u267::u268::u269::u270::u271::u272::[]).toArray,[]⟩ wc:=by
 conv=>arg 2;arg 1;whnf
 have HSC:=oH (zUu (A1:=some ⟨b,off,none⟩) (A2:=some ⟨b2,off2,none⟩) (at1:=at1) (ca:=ca) (rs:=rs) (cr:=cr) (fs:=fs) (af:=af) (cf:=cf) (lb:=lb) (w:=w))
 have HFC:=oH (fun (b2 off2:Nat) (e:af=some ⟨b2,off2,none⟩) (i:Nat) (hi:i<fs.length)=>(show w.cell? ⟨b2,off2+i*3,none⟩=some (.int .i64 (fs[i].a:Int))/\w.cell? ⟨b2,off2+i*3+1,none⟩=some (.int .i64 fs[i].k)/\w.cell? ⟨b2,off2+i*3+2,none⟩=some (.int .i64 fs[i].m) by
  subst e
  exact ⟨HIN.f.at_ (zMp hi).1,HIN.f.at_ (zMp hi).2.1,HIN.f.at_ (zMp hi).2.2⟩))
 have HAC:=oH (fun (i:Nat) (hi:i<at1.length)=>(show w.cell? ⟨b,off+i*2+1,none⟩=some (.int .i64 at1[i].2) from HIN.a.at_ (zHp hi).2));have HKK:=oH hK;clear hK
 go_loopw [168] (fun iv wr=>∃ k:Nat,iv = .int .i64 (k:Int)/\k<=fs.length/\Below (w.heap.size+1) (w.alloc (.cells #[.slice (some ⟨b,off,none⟩) at1.length ca,.slice (some ⟨b2,off2,none⟩) rs.length cr,.slice af fs.length cf,.int .i64 lb] 31)) wr) (fun iv _=>fs.length-(intOf iv).toNat)
 ·exact ⟨0,rfl,oLx,HBEL.out⟩
 obtain ⟨k,rfl,hk,hbel⟩:=hrel;obtain ⟨w3,rfl⟩:=nWx wr;obtain ⟨s0,s1,s2,s3,hsz,hbw⟩:=HSC.out _ hbel;replace HBEL:=oH hbel;have HBW:=oH hbw;clear hbel hbw
 by_cases hlt:k<fs.length
 ·obtain ⟨b4,off4,rfl,hb4, -⟩:=HIN.f.some (fv_nil (by intro e;simp only at e;subst e;simp at hlt));replace HFC:=oH (HFC.out b4 off4 rfl);obtain ⟨a1,a2,a3⟩:=HFC.out k hlt;have c1:=(HBW.cell (p:=⟨b4,off4+k*3,none⟩) hb4).trans a1;have c2:w3.cell? ⟨b4,off4+k*3+1,none⟩=_:=(HBW.cell (p:=⟨b4,off4+(k*3+1),none⟩) hb4).trans a2;have c3:w3.cell? ⟨b4,off4+k*3+2,none⟩=_:=(HBW.cell (p:=⟨b4,off4+(k*3+2),none⟩) hb4).trans a3;obtain ⟨fl,fk,fo⟩:=HOK.fine.feat fs[k] (List.getElem_mem hlt);have c4:w3.cell? ⟨b,off+fs[k].a*2+1,none⟩=_:=(HBW.cell (p:=⟨b,off+(fs[k].a*2+1),none⟩) hb).trans (HAC.out _ fl);clear a1 a2 a3;simp only at fl fk fo c4;generalize at1[fs[k].a].2=z at *;generalize fs[k].k=kk at *;generalize fs[k].m=mm at *
  have HNE:Hid (∀ i,(hi:i<fs.length)->i<k->((fs[i].a:Int)==(fs[k].a:Int))=false):=oH fun i hi hik=>by
   have h2:=(List.pairwise_iff_getElem.1 HOK.fine.featd) i k (by simpa using hi) (by simpa using hlt) hik;rw [beq_eq_false_iff_ne]
   intro e
   apply h2
   simp only [List.getElem_map];omega
  generalize fs[k].a=x at *
  have hnl:((x:Int)==lb)=false:=by rw [beq_eq_false_iff_ne];exact fo
  clear fo
  have hx0:decide ((x:Int)<0)=false:=by simp
  have hx1:decide ((at1.length:Int)<=(x:Int))=false:=by simp;omega
  have hbr:b<w3.heap.size:=by omega
  have hsl:w.heap.size<w3.heap.size:=by omega
  have hb4r:b4<w3.heap.size:=by omega
  have HBX:=oH (Blk.new w3 75 [.int .i64 (x:Int),.int .i64 kk,.int .i64 mm]);have HB4:=oH (HBEL.alloc hsz (.cells #[.int .i64 (x:Int),.int .i64 kk,.int .i64 mm] 75));obtain ⟨wz,hwz⟩:∃ wz,wz=w3.alloc (.cells #[.int .i64 (x:Int),.int .i64 kk,.int .i64 mm] 75):=⟨_,rfl⟩;rw [<-hwz] at HB4 HBX;have HWZ:=oH hwz;clear hwz
  rcases fk with ⟨rfl,rfl,rfl|rfl⟩|⟨rfl,rfl,rfl⟩
  all_goals
   go_wp2_with fail;rw [<-HWZ.out];clear HWZ;obtain ⟨r0,r1,r2,r3,hsz4,hbw4⟩:=HSC.out _ HB4.out;have e0:=HBX.at_ (i:=0) rfl;have HBW4:=oH hbw4;clear hbw4 c1 c2 c3 c4 s0 s1 s2 s3
   go_loopw [19] (fun iv wq=>∃ j m:Nat,iv = .int .i64 (j:Int)/\j<=k/\wq=wz.drewN m) (fun iv _=>k-(intOf iv).toNat)
   ·exact ⟨0,0,rfl,oLx,rfl⟩
   obtain ⟨j,m,rfl,hj,rfl⟩:=hrel
   by_cases hltj:j<k
   ·have d1:=(HBW4.cell (p:=⟨b4,off4+j*3,none⟩) hb4).trans (HFC.out j oMx).1;have hne:=HNE.out j oMx hltj;generalize fs[j].a=aj at *
    have j1:j<fs.length:=by omega
    go_wp2_with fail
    go_quiet (fail)
    go_wp2_with fail;go_roundw
    ·exact ⟨j+1,_,by go_num,oMx,rfl⟩
    simp [intOf];omega
   obtain rfl:k=j:=by omega
   have y0:(wz.drewN m).cell? ⟨w3.heap.size,0,none⟩=_:=e0;have y1:(wz.drewN m).cell? ⟨w.heap.size,3,none⟩=_:=r3;have HB5:=oH (below_drewN HB4.out m);go_wp2_with fail;go_roundw
   ·exact ⟨k+1,by go_num,oMx,HB5.out⟩
   simp [intOf];omega
 obtain rfl:k=fs.length:=by omega
 go_wp2_with fail;exact HKK.out _ _ _ _ _ _ _ _ _ _ _ _ _ _ _ _ _ _ _ _ _ _ _ _ _ _ _ _ _ _ _ _ _ _ _ _ _ _ _ _ _ _ _ _ _ _ _ _ _ _ _ _ _ _ _ _ _ _ _ _ _ _ _ _ _ _ _ _ _ _ _ _ _ _ _ _ _ _ _ _ _ _ _ _ _ _ _ _ _ _ _ _ _ _ _ _ _ _ _ _ _ _ _ _ _ _ _ _ _ _ _ _ _ _ _ _ _ _ _ _ _ _ _ _ _ _ _ _ _ _ _ _ _ _ _ _ _ _ _ _ _ _ _ _ _ _ _ _ _ _ _ _ _ _ _ _ _ _ _ _ _ _ _ _ _ _ _ _ _ _ _ _ _ _ _ _ _ _ _ _ _ _ _ _ _ _ _ _ _ _ _ _ _ _ _ _ _ _ _ _ _ _ _ _ _ _ _ _ _ _ _ _ _ _ _ _ _ _ _ _ _ _ _ _ _ _ _ _ _ _ _ _ _ _ _ _ _ _ _ _ _ _ _ _ _ _ _ _ _ _ _ _ _ _ _ _ _ _ _ _ _ _ _ _ _ _ _ _ _ _ _ HBEL.out
theorem zDt (S:zFv) (w:World) (hin:zBp w S) (hok:zFu S) (hlow:zCg S):Calls Tryz.prog 62 #[.agg S.cells] w fun e w'=>e = .returned (.int .i64 0)/\Below w.heap.size w w':=by
 obtain ⟨i1,hj,hy0,hy1,hy2⟩:=info_parts Tryz.infoBool;have HIN:=oH hin;have HOK:=oH hok;have HLOW:=oH hlow;obtain ⟨q1,q2,q3,q4,q5, -, -, -, -, -, -,q6,q7, -⟩:=hok.fine;unfold zFv.cells;obtain ⟨at1,aa,ca,rs,ar,cr,fs,af,cf,lb⟩:=S;simp only at q1 q2 q3 q4 q5 q6 q7 ⊢
 have HAC:=oH (fun (b off:Nat) (e:aa=some ⟨b,off,none⟩) (i:Nat) (hi:i<at1.length)=>(show w.cell? ⟨b,off+i*2,none⟩=some (.string at1[i].1)/\w.cell? ⟨b,off+i*2+1,none⟩=some (.int .i64 at1[i].2) by
  subst e
  exact ⟨hin.a.at_ (zHp hi).1,hin.a.at_ (zHp hi).2⟩))
 clear hin hok hlow
 have t1:((at1.length:Int)==0)=false:=by rw [beq_eq_false_iff_ne];omega
 have t2:decide ((12:Int)<(at1.length:Int))=false:=by simp;omega
 have t3:((rs.length:Int)==0)=false:=by rw [beq_eq_false_iff_ne];omega
 have t4:decide ((6:Int)<(rs.length:Int))=false:=by simp;omega
 have t5:decide ((8:Int)<(fs.length:Int))=false:=by simp;omega
 obtain ⟨b,off,rfl,hb, -⟩:=HIN.a.some (zHq (by intro e;simp only at e;subst e;simp at q1));replace HAC:=oH (HAC.out b off rfl);have HSC:=oH (zUu (A1:=some ⟨b,off,none⟩) (A2:=ar) (at1:=at1) (ca:=ca) (rs:=rs) (cr:=cr) (fs:=fs) (af:=af) (cf:=cf) (lb:=lb) (w:=w))
 go_enter Tryz.func62,Tryz.ntmps62
 go_wp2_with fail;clear t1 t2 t3 t4 t5
 go_loopw [51] (fun iv wr=>∃ k:Nat,iv = .int .i64 (k:Int)/\k<=at1.length/\Below (w.heap.size+1) (w.alloc (.cells #[.slice (some ⟨b,off,none⟩) at1.length ca,.slice ar rs.length cr,.slice af fs.length cf,.int .i64 lb] 31)) wr) (fun iv _=>at1.length-(intOf iv).toNat)
 ·exact ⟨0,rfl,oLx,bRx⟩
 obtain ⟨k,rfl,hk,hbel⟩:=hrel;obtain ⟨s0, -, -, -,hsz,hbw⟩:=HSC.out _ hbel;have HBEL:=oH hbel;have HBW:=oH hbw;clear hbel hbw
 by_cases hlt:k<at1.length
 ·obtain ⟨a1,a2⟩:=HAC.out k hlt;have c1:=(HBW.cell (p:=⟨b,off+k*2,none⟩) hb).trans a1;have c2:wr.cell? ⟨b,off+k*2+1,none⟩=_:=(HBW.cell (p:=⟨b,off+(k*2+1),none⟩) hb).trans a2;have HWORD:=oH (fun W=>zEv at1[k].1 W (HLOW.a _ (List.getElem_mem hlt)));have hkind:=(HOK.fine.word _ (List.getElem_mem hlt)).2
  have HNE:Hid (∀ i,(hi:i<at1.length)->i<k->(at1[i].1.toList==at1[k].1.toList)=false):=oH fun i hi hik=>by
   rw [zIa,decide_eq_false_iff_not];have h2:=(List.pairwise_iff_getElem.1 HOK.names) i k (by simpa using hi) (by simpa using hlt) hik
   intro e
   apply h2
   simp [e]
  clear a1 a2;generalize at1[k].1=nm at *;generalize at1[k].2=z at *;have z1:decide (z<1)=false:=decide_eq_false oMx;have z2:decide ((3:Int)<z)=false:=decide_eq_false oMx;clear hkind
  have hbr:b<wr.heap.size:=by omega
  go_wp2_with fail;refine (HWORD.out _).mono ?_;rintro e w4 ⟨rfl,hb4⟩;have hblk:=(Blk.new wr 66 [.string nm,.int .i64 z]).below hb4;have x0:=hblk.at_ (i:=0) rfl;have x1:=hblk.at_ (i:=1) rfl;have HB4:=oH (HBEL.trans (((Below.refl wr.heap.size wr).alloc lRx _).trans (hb4.mono sMx) |>.mono hsz));obtain ⟨r0, -, -, -,hsz4,hbw4⟩:=HSC.out _ HB4.out;have HBW4:=oH hbw4;clear hb4 hblk hbw4;go_wp2_with fail
  go_loopw [5] (fun iv wq=>∃ j m:Nat,iv = .int .i64 (j:Int)/\j<=k/\wq=w4.drewN m) (fun iv _=>k-(intOf iv).toNat)
  ·exact ⟨0,0,rfl,oLx,rfl⟩
  obtain ⟨j,m,rfl,hj,rfl⟩:=hrel
  by_cases hltj:j<k
  ·have d1:=(HBW4.cell (p:=⟨b,off+j*2,none⟩) hb).trans (HAC.out j oMx).1;have hne:=HNE.out j oMx hltj;generalize at1[j].1=nmj at *
   have j1:j<at1.length:=by omega
   go_wp2_with fail
   go_quiet (fail)
   go_wp2_with fail;go_roundw
   ·exact ⟨j+1,_,by go_num,oMx,rfl⟩
   simp [intOf];omega
  obtain rfl:j=k:=by omega
  have y1:(w4.drewN m).cell? ⟨wr.heap.size,1,none⟩=_:=x1;go_wp2_with fail;go_roundw
  ·exact ⟨j+1,by go_num,oMx,below_drewN HB4.out _⟩
  simp [intOf];omega
 obtain rfl:k=at1.length:=by omega
 go_upto_region 16 with (fail)
 have hmk:=fun W=>zUp (P:=Tryz.prog) 111 4 i1 Tryz.underlying111 hj hy0 hy1 hy2 at1.length oMx W
 obtain ⟨b2,off2,rfl,hb2, -⟩:=HIN.r.some (zTg (by intro e;simp only at e;subst e;simp at q3));have HU0:=oH (Blk.new wr 4 (bv (zYa at1.length (zXy []))))
 go_cut [6] from 2 (fun v wc=>∃ g:Nat,v = .slice (some ⟨g,0,none⟩) at1.length at1.length/\w.heap.size+1<=g/\Blk wc g 4 (bv (zYa at1.length (zXy [])))/\Below (w.heap.size+1) (w.alloc (.cells #[.slice (some ⟨b,off,none⟩) at1.length ca,.slice (some ⟨b2,off2,none⟩) rs.length cr,.slice af fs.length cf,.int .i64 lb] 31)) wc)
 case first =>
  go_wp2_with fail
  go_meet
  exact ⟨_,rfl,hsz,HU0.out,HBEL.alloc hsz _⟩
 case rest =>
 clear HBEL HBW s0 hsz HU0 hmk;obtain ⟨g,rfl,hgs,hu0,hcut⟩:=hcut;obtain ⟨s0,s1, -, -,hsz,hbw⟩:=HSC.out _ hcut;have HBEL:=oH hcut;have HBW:=oH hbw;have HU0:=oH hu0;clear hcut hbw hu0;go_wp2_with fail;refine zDu HIN HOK HLOW hgs hb2 q2 q4 HU0 HBEL (fun v2 v3 v4 v5 v7 v8 v9 v10 v11 v12 v13 v14 v15 v16 v17 v18 v19 v20 v21 v22 v23 v24 v25 v26 v27 v28 v29 v30 v31 v32 v33 v34 v35 v36 v37 v38 v39 v40 v41 v42 v43 v44 v45 v46 v47 v48 v49 v50 v51 v52 v53 v54 v55 v56 v57 v58 v59 v60 v61 v62 v63 v64 v65 v66 v67 v68 v69 v70 v71 v72 v73 v74 v75 v76 v77 v78 v79 v80 v81 v82 v83 v84 v85 v86 v87 v88 v89 v90 v91 v92 v93 v94 v95 v96 v97 v98 v99 v100 v101 v102 v103 v104 v105 v106 v107 v108 v109 v110 v111 v112 v113 v114 v115 v116 v117 v118 v119 v120 v121 v122 v123 v124 v125 v126 v127 v128 v129 v130 v131 v132 v133 v134 v135 v136 v137 v138 v139 v140 v141 v142 v143 v144 v145 v146 v147 v148 v149 v150 v151 v152 v153 v154 v155 v156 v157 v158 v159 v160 v161 v162 v163 v164 v165 v166 v167 v168 v169 v170 v171 v172 v173 v174 v175 v176 v177 v178 v179 v180 v181 v182 v183 v184 v185 v186 v187 v188 v189 v190 v191 v192 v193 v194 v195 v196 v197 v198 v199 v200 v201 v202 v203 v204 v205 v206 v207 v208 v209 v210 v211 v212 v213 v214 v215 v216 v217 v218 v219 v220 v221 v222 v223 v224 v225 v226 v227 v228 v229 v230 v231 v232 v233 v234 v235 v236 v237 v238 v239 v240 v241 v242 v243 v244 v245 v246 v247 v248 v249 v250 v251 v252 v253 v254 v255 v256 v257 v258 v259 v260 v261 v262 v263 v264 v265 v266 v267 v268 v269 v270 v271 v272 W hu hbel=>?_)
 clear HBEL HBW s0 s1 hsz HAC HU0 HLOW;obtain ⟨s0,s1,s2,s3,hsz,hbw⟩:=HSC.out _ hbel;have HBEL:=oH hbel
 have HUC:=oH (fun x (hx:x<at1.length)=>(show W.cell? ⟨g,x,none⟩=some (.bool true) from hu.at_ (by
  have h1:=zIz (us:=zYa at1.length (zXy rs)) (i:=x) (by rw [zYb];exact hx);rw [h1];unfold zYa
  simp [HOK.used x hx])))
 have hul:=hu.lt;clear hbel hbw hu;go_wp2_with fail
 go_loopw [158] (fun iv wq=>∃ q:Nat,iv = .int .i64 (q:Int)/\q<=at1.length/\wq=W) (fun iv _=>at1.length-(intOf iv).toNat)
 ·exact ⟨0,rfl,oLx,rfl⟩
 obtain ⟨q,rfl,hq,rfl⟩:=hrel
 by_cases hltq:q<at1.length
 ·have hcu:=HUC.out q hltq;go_wp2_with fail;go_roundw
  ·exact ⟨q+1,by go_num,oMx,trivial⟩
  simp [intOf];omega
 obtain rfl:q=at1.length:=by omega
 go_wp2_with fail;refine zDr HIN HOK hb q2 q5 HBEL (fun z2 z3 z4 z5 z7 z8 z9 z10 z11 z12 z13 z14 z15 z16 z17 z18 z19 z20 z21 z22 z23 z24 z25 z26 z27 z28 z29 z30 z31 z32 z33 z34 z35 z36 z37 z38 z39 z40 z41 z42 z43 z44 z45 z46 z47 z48 z49 z50 z51 z52 z53 z54 z55 z56 z57 z58 z59 z60 z61 z62 z63 z64 z65 z66 z67 z68 z69 z70 z71 z72 z73 z74 z75 z76 z77 z78 z79 z80 z81 z82 z83 z84 z85 z86 z87 z88 z89 z90 z91 z92 z93 z94 z95 z96 z97 z98 z99 z100 z101 z102 z103 z104 z105 z106 z107 z108 z109 z110 z111 z112 z113 z114 z115 z116 z117 z118 z119 z120 z121 z122 z123 z124 z125 z126 z127 z128 z129 z130 z131 z132 z133 z134 z135 z136 z137 z138 z139 z140 z141 z142 z143 z144 z145 z146 z147 z148 z149 z150 z151 z152 z153 z154 z155 z156 z157 z158 z159 z160 z161 z162 z163 z164 z165 z166 z167 z168 z169 z170 z171 z172 z173 z174 z175 z176 z177 z178 z179 z180 z181 z182 z183 z184 z185 z186 z187 z188 z189 z190 z191 z192 z193 z194 z195 z196 z197 z198 z199 z200 z201 z202 z203 z204 z205 z206 z207 z208 z209 z210 z211 z212 z213 z214 z215 z216 z217 z218 z219 z220 z221 z222 z223 z224 z225 z226 z227 z228 z229 z230 z231 z232 z233 z234 z235 z236 z237 z238 z239 z240 z241 z242 z243 z244 z245 z246 z247 z248 z249 z250 z251 z252 z253 z254 z255 z256 z257 z258 z259 z260 z261 z262 z263 z264 z265 z266 z267 z268 z269 z270 z271 z272 W2 hbel=>?_)
 clear HBEL s0 s1 s2 s3 hsz HUC hul;obtain ⟨s0,s1,s2,s3,hsz,hbw⟩:=HSC.out _ hbel;have HB:=oH hbw;clear hbel;have hl1:decide (lb < -1)=false:=decide_eq_false oMx;have hl2:decide ((at1.length:Int)<=lb)=false:=decide_eq_false oMx
 by_cases hl0:0<=lb
 ·obtain ⟨l,rfl⟩:∃ l:Nat,lb=l:=⟨lb.toNat,oMx⟩
  have hll:l<at1.length:=by omega
  have hcl:W2.cell? ⟨b,off+l*2+1,none⟩=_:=(hbw.cell (p:=⟨b,off+(l*2+1),none⟩) hb).trans (HIN.a.at_ (zHp hll).2);have h3:=HOK.fine.lb3 l hll rfl;simp only at h3 hcl;rw [h3] at hcl;clear h3 hbw;have hl3:decide ((0:Int)<=(l:Int))=true:=decide_eq_true oMx;go_wp2_with fail;go_ret
  exact ⟨rfl,HB.out⟩
 have hl3:decide ((0:Int)<=lb)=false:=decide_eq_false hl0;clear hbw;go_wp2_with fail;go_ret
 exact ⟨rfl,HB.out⟩
end Go.Proofs.YtafflnognagadaaGreatDoor
