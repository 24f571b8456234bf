import Derived.Test.YtfjjcoggoomlbaaGreatDoorZNJ
set_option maxHeartbeats 16000000
set_option maxRecDepth 100000
set_option linter.unusedVariables false
set_option linter.unusedSimpArgs false
set_option linter.unusedSectionVars false
namespace Go.Proofs.YtfjjcoggoomlbaaGreatDoor
open Go.RowKit
theorem posM_int {n:Nat} {M:Nat→Nat→Rat} (h:zHb n n M) (hn:n≤4):IntM n n (zVs n M):=fun i k hi hk=>by
 obtain ⟨z,hz, -⟩:=zVt h hn i k hi hk
 exact ⟨z,hz⟩
theorem zNe {n:Nat} {M:Nat→Nat→Rat} (y:Nat→Rat):form n (zVs n M) y=(xCf n fun i=>y i*y i)+xCf n fun t=>(xCf n fun i=>y i*M i t)*(xCf n fun i=>y i*M i t):=by
 have h1:form n (zVs n M) y=xCf n fun i=>(y i*y i)+xCf n fun t=>(y i*M i t)*(xCf n fun j=>y j*M j t):=xCh fun i hi=>by
  have e1:∀ j,y i*zVs n M i j*y j=y i*y j*idn i j+xCf n fun t=>(y i*M i t)*(y j*M j t):=fun j=>by
   unfold zVs
   have e2:(xCf n fun t=>(y i*M i t)*(y j*M j t))=(y i*y j)*xCf n fun t=>M i t*M j t:=by
    rw [←xCk]
    exact xCh fun t _=>by grind
   rw [e2]
   grind
  rw [xCh (fun j _=>e1 j),xCg,xCm hi fun j hj hne=>by unfold idn;rw [if_neg (Ne.symm hne)];grind]
  rw [show idn i i=1 by unfold idn;rw [if_pos rfl],xCo]
  have e3:∀ t,(xCf n fun j=>(y i*M i t)*(y j*M j t))=(y i*M i t)*xCf n fun j=>y j*M j t:=fun t=>xCk _ _ _
  rw [xCh (fun t _=>e3 t)]
  grind
 rw [h1,xCg,xCo]
 congr 1
 refine xCh fun t _=>?_
 have h2:(fun i=>y i*M i t*xCf n fun j=>y j*M j t)=fun i=>(xCf n fun j=>y j*M j t)*(y i*M i t):=by funext i;grind
 rw [h2,xCk]
theorem zVv {n k:Nat} {M:Nat→Nat→Rat} (h:zHb n n M) (hn:n≤4) (hk:zDm n (zVs n M) k):k=n:=by
 obtain ⟨h1,h2,h3⟩:=hk
 rcases Nat.lt_or_ge k n with hlt|hge
 ·exfalso
  have hd:∀ t,t<k→dD (zVs n M) t≠0:=fun t ht=>by have:=h2 t ht;grind
  have hdet:det k (zVs n M)≠0:=by
   rw [zLw hd]
   exact zWd hd
  have hint:IntM k k (zVs n M):=fun i j hi hj=>posM_int h hn i j (by omega) (by omega)
  obtain ⟨X,hX0⟩:=rinv_int (n:=k) (fun i j=>(zVs n M i j).num) (by
   rw [show det k (fun i j=>(((zVs n M i j).num:Int):Rat))=det k (zVs n M) from (zLs k).ext _ _ hint.num]
   exact hdet)
  have hX:∀ i l,i<k→l<k→mulM k (zVs n M) X i l=idn i l:=fun i l hi hl=>by
   rw [←hX0 i l hi hl]
   exact xCh fun j hj=>by rw [←hint.num i j hi hj]
  have hx:∀ i,i<k→xCf k (fun j=>zVs n M i j*xCf k fun l=>X j l*(-(zVs n M l k))) = -(zVs n M i k):=fun i hi=>by
   have e:=zSa k k (zVs n M) X (fun l _ => -(zVs n M l k)) i 0
   have e2:mulM k (zVs n M) (mulM k X (fun l _ => -(zVs n M l k))) i 0=xCf k (fun j=>zVs n M i j*xCf k fun l=>X j l*(-(zVs n M l k))):=rfl
   rw [←e2,←e]
   show xCf k (fun l=>mulM k (zVs n M) X i l*(-(zVs n M l k)))=_
   rw [xCm hi fun l hl hne=>by rw [hX i l hi hl];unfold idn;rw [if_neg (Ne.symm hne)];grind]
   rw [hX i i hi hi]
   unfold idn
   rw [if_pos rfl]
   grind
  have hf:=zNf hd hlt hx
  rw [zNe] at hf
  have hy:xGk k (fun j=>xCf k fun l=>X j l*(-(zVs n M l k))) k=1:=by unfold xGk;rw [if_neg (Nat.lt_irrefl k),if_pos rfl]
  have p1:0<xCf n fun i=>xGk k (fun j=>xCf k fun l=>X j l*(-(zVs n M l k))) i*xGk k (fun j=>xCf k fun l=>X j l*(-(zVs n M l k))) i:=xCn (k:=k) (fun i _=>sq_nonneg _) hlt (by rw [hy];grind)
  have p2:0≤xCf n fun t=>(xCf n fun i=>xGk k (fun j=>xCf k fun l=>X j l*(-(zVs n M l k))) i*M i t)*(xCf n fun i=>xGk k (fun j=>xCf k fun l=>X j l*(-(zVs n M l k))) i*M i t):=xCl fun t _=>sq_nonneg _
  exact h3 hlt (by rw [←hf];grind)
 ·omega
theorem MSym_nil (b:Nat) (w:World) (hs:Src w b):Calls Tryz.prog 10 #[.pointer (some ⟨b,0,none⟩),.int .i64 0] w (zFw w b 0 (fun M=>zHb 0 0 M∧SymM 0 M)):=by
 generalize hQ:zFw w b 0 (fun M=>zHb 0 0 M∧SymM 0 M)=Q
 replace hQ:=oH hQ
 have HS:=oH hs
 clear hs
 go_enter Tryz.func10,Tryz.ntmps10
 go_wp2_with fail
 refine (show Calls Tryz.prog 32 #[.pointer (some ⟨b,0,none⟩),.int .i64 0,.int .i64 0] w _ from zHd b 0 0 w HS.out (by omega) (by omega) (.inr rfl)).mono ?_
 rintro e w1 ⟨v,rs,rfl,hl,hr,hmo,hs1,hg1⟩
 have hrs:rs=[]:=List.eq_nil_of_length_eq_zero hl
 subst hrs
 obtain ⟨A0,c,rfl, -⟩:=zUs hmo.o
 have HR:=oH (show zFw w b 0 (fun M=>zHb 0 0 M∧SymM 0 M) (.returned (.slice A0 0 c)) w1 from ⟨A0,c,fun _ _=>0,rfl,⟨[],hmo.toMatOwn.topM,⟨rfl,fun r hr=>(by cases hr),fun i k hi=>absurd hi (by simp),fun i k hi=>absurd hi (by omega)⟩,fun r hr=>(by cases hr)⟩,⟨fun i k hi=>absurd hi (by omega),fun i k hi=>absurd hi (by omega)⟩,hs1,hg1⟩)
 clear hl hr hmo hs1 hg1
 go_wp2_with fail
 go_loopw [14] (fun iv wr=>iv = .int .i64 0∧wr=w1) (fun _ _=>0)
 case atStart=>exact ⟨rfl,rfl⟩
 case round =>
  obtain ⟨rfl,rfl⟩:=hrel
  go_wp2_with fail
  rw [←hQ.out]
  exact HR.out
theorem MPos_nil (b:Nat) (w:World) (hs:Src w b):Calls Tryz.prog 11 #[.pointer (some ⟨b,0,none⟩),.int .i64 0] w (zFw w b 0 (fun P=>∃ M,zHb 0 0 M∧P=zVs 0 M)):=by
 generalize hQ:zFw w b 0 (fun P=>∃ M,zHb 0 0 M∧P=zVs 0 M)=Q
 replace hQ:=oH hQ
 have HS:=oH hs
 clear hs
 go_enter Tryz.func11,Tryz.ntmps11
 go_wp2_with fail
 refine (show Calls Tryz.prog 32 #[.pointer (some ⟨b,0,none⟩),.int .i64 0,.int .i64 0] w _ from mxThin b 0 0 w HS.out (by omega) (by omega) (.inr rfl)).mono ?_
 rintro e w1 ⟨A,c,M,rfl, -,hth,hs1,hg1⟩
 have HR:=oH (show zFw w b 0 (fun P=>∃ M,zHb 0 0 M∧P=zVs 0 M) (.returned (.slice none 0 0)) w1 from ⟨none,0,zVs 0 M,rfl,⟨[],⟨World.ownsRow_nil _ _ _ _,fun r hr=>(by cases hr)⟩,⟨rfl,fun r hr=>(by cases hr),fun i k hi=>absurd hi (by simp),fun i k hi=>absurd hi (by omega)⟩,fun r hr=>(by cases hr)⟩,⟨M,hth,rfl⟩,hs1,hg1⟩)
 clear hth hs1 hg1
 go_wp2_with fail
 go_loopw [6,20] (fun v iv wr=>v = .slice none 0 0∧iv = .int .i64 0∧wr=w1) (fun _ _ _=>0)
 case atStart=>exact ⟨rfl,rfl,rfl⟩
 case round =>
  obtain ⟨rfl,rfl,rfl⟩:=hrel
  go_wp2_with fail
  rw [←hQ.out]
  exact HR.out
structure Kind (n:Nat) (M:Nat→Nat→Rat):Prop where
 sym:SymM n M
 bnd:∀ i k,i<n→k<n→IsB 39 (M i k)
 thin:∀ k,zDm n M k→k<n→zHb n n M
theorem kind_sym {n:Nat} {M:Nat→Nat→Rat} (h:zHb n n M) (hs:SymM n M):Kind n M:=⟨hs,fun i k hi hk=>(show IsB 3 (M i k) from h i k hi hk).mono (by decide),fun _ _ _=>h⟩
theorem zOx {n:Nat} {M:Nat→Nat→Rat} (h:zHb n n M) (hn:n≤4):Kind n (zVs n M):=⟨posM_sym n n M,zVt h hn,fun k hk hlt=>absurd (zVv h hn hk) (by omega)⟩
theorem zLq:∀ r,r≤4→zLp 39 r<10^9
 | 0,_=>by decide
 | 1,_=>by decide
 | 2,_=>by decide
 | 3,_=>by decide
 | 4,_=>by decide
section
variable {n k:Nat} {M:Nat→Nat→Rat}
theorem Kind.fitD (h:Kind n M) (hn:n≤4) (hk:k<n) (hp:∀ t,t<k→0<dD M t):zBq (dD M k) :=
 (dD_dig (fun t ht=>by have:=hp t ht;grind) hk h.bnd (zLq _ (by omega)) (zLq _ (by omega))).fits (by decide) (by decide)
theorem Kind.fitL (h:Kind n M) (hn:n≤4) {i:Nat} (hk:k<n) (hi:i<n) (hp:∀ t,t≤k→0<dD M t):zBq (lL M i k) :=
 (lL_dig (fun t ht=>by have:=hp t ht;grind) hk h.bnd (zLq _ (by omega)) hi).fits (by decide) (by decide)
end
theorem MSymK (b n:Nat) (w:World) (hs:Src w b) (hn:n≤4):Calls Tryz.prog 10 #[.pointer (some ⟨b,0,none⟩),.int .i64 (n:Int)] w (zFw w b n (Kind n)):=by
 have up:∀ e w',zFw w b n (fun M=>zHb n n M∧SymM n M) e w'→zFw w b n (Kind n) e w':=by
  rintro e w' ⟨A,c,M,he,h1,⟨h2,h3⟩,h4,h5⟩
  exact ⟨A,c,M,he,h1,kind_sym h2 h3,h4,h5⟩
 rcases Nat.eq_zero_or_pos n with h0|h0
 ·subst h0
  exact (show Calls _ _ #[.pointer (some ⟨b,0,none⟩),.int .i64 ((0:Nat):Int)] w _ from MSym_nil b w hs).mono up
 ·exact (MSym_any b n w hs h0 (by omega)).mono fun e w' h=>up e w' h.pos
theorem MPosK (b n:Nat) (w:World) (hs:Src w b) (hn:n≤4):Calls Tryz.prog 11 #[.pointer (some ⟨b,0,none⟩),.int .i64 (n:Int)] w (zFw w b n (fun M=>Kind n M∧∀ k,zDm n M k→k=n)):=by
 have up:∀ e w',zFw w b n (fun P=>∃ M,zHb n n M∧P=zVs n M) e w'→zFw w b n (fun M=>Kind n M∧∀ k,zDm n M k→k=n) e w':=by
  rintro e w' ⟨A,c,P,he,h1,⟨M,h2,rfl⟩,h4,h5⟩
  exact ⟨A,c,_,he,h1,⟨zOx h2 hn,fun k hk=>zVv h2 hn hk⟩,h4,h5⟩
 rcases Nat.eq_zero_or_pos n with h0|h0
 ·subst h0
  exact (show Calls _ _ #[.pointer (some ⟨b,0,none⟩),.int .i64 ((0:Nat):Int)] w _ from MPos_nil b w hs).mono up
 ·exact (zCt b n w hs h0 hn).mono up
def MxR (w:World) (A:Option Addr) (n:Nat) (M:Nat→Nat→Rat):Prop:=∃ rs,zCw w A rs∧zCv rs n n M∧∀ r∈rs,r.ss.length≤r.cp
section
variable {w w':World} {A:Option Addr} {n c B b:Nat} {M:Nat→Nat→Rat}
theorem MxR.below (h:MxR w A n M) (hb:Below w.heap.size w w'):MxR w' A n M:=by
 obtain ⟨rs,h1,h2,h3⟩:=h
 exact ⟨rs,h1.below hb,h2,h3⟩
theorem MxC.grown (h:MxC B w A n c M) (hg:w.grownBy w' (some b)) (hb:b<B):MxC B w' A n c M:=by
 obtain ⟨rs,h1,h2,h3⟩:=h
 exact ⟨rs,h1.grown hg hb,h2,h3⟩
theorem MxC.r (h:MxC B w A n c M):MxR w A n M:=by
 obtain ⟨rs,h1,h2,h3⟩:=h
 exact ⟨rs,h1.read' h2.len,h2,h3⟩
theorem MxR.light {rs:List zGi} (h2:zCv rs n n M) (hk:Kind n M) (hn:n≤4):¬600<zOb rs n:=h2.light (k0:=2) hn hn (by decide) (by decide) fun i k hi hk'=>(hk.bnd i k hi hk').dig (by decide) (by decide)
theorem decM (h:MxR w A n M) (hk:Kind n M) (hn:n≤4) (henv:Env w):Calls Tryz.prog 12 #[.slice A n c] w (zAq n M w):=by
 obtain ⟨rs,h1,h2,h3⟩:=h
 rcases Nat.eq_zero_or_pos n with h0|h0
 ·subst h0
  exact zAt A c M w henv
 ·exact zAs A c n rs M w h1 h2 h0 (by omega) hk.sym (MxR.light h2 hk hn) henv (fun k hkn hp=>hk.fitD hn hkn fun t ht=>hp t (by omega)) (fun k i hki hi hp=>hk.fitL hn (by omega) hi hp)
theorem witM (h:MxR w A n M) (hk:Kind n M) (hn:n≤4) (henv:Env w):Calls Tryz.prog 13 #[.slice A n c] w (zHk n M w):=by
 obtain ⟨rs,h1,h2,h3⟩:=h
 rcases Nat.eq_zero_or_pos n with h0|h0
 ·subst h0
  exact (zHm A c w henv).mono fun e w' ⟨he,hb⟩=>⟨0,⟨Nat.le_refl _,fun t ht=>absurd ht (by omega),fun h=>absurd h (by omega)⟩,hb,.inl ⟨rfl,he⟩⟩
 ·exact zHl A c n rs M w h1 h2 h3 h0 hn hk.sym (MxR.light h2 hk hn) hk.thin henv
theorem frmM {Ab:Option Addr} {cb:Nat} {x:Nat→Rat} (h:MxR w A n M) (hv:zHi w Ab n x) (hn1:1≤n) (hn:n≤4) {q:Rat} (hq:form n M x=q) (hf:zBq q) (henv:Env w):Calls Tryz.prog 16 #[.slice A n c,.slice Ab n cb] w fun e w'=>e = .returned (.tuple #[.string (zYd q),.int .i64 0])∧Below w.heap.size w w':=by
 obtain ⟨rs,h1,h2,h3⟩:=h
 obtain ⟨ss,h4,h5⟩:=hv
 have:=zBr A Ab c cb n rs ss M x w h1 h2 hn1 (by omega) h4 h5 henv
 rw [hq,zUo hf,zUm hf] at this
 exact this
theorem chkM {AD:Option Addr} {cD U B:Nat} {rsL:List zGi} (h:MxR w A n M) (hk:Kind n M) (hn:n≤4) (hp:∀ t,t<n→0<dD M t) (hg:zBu B n n (lK M n) U rsL w) (hD:w.ownsRow B 39 1 (.slice AD n cD) n (dTx M n)) (henv:Env w) :
  Calls Tryz.prog 14 #[.slice A n c,.agg #[.slice (some ⟨U,0,none⟩) n n,.slice AD n cD]] w fun e w'=>e = .returned (.bool true)∧Below w.heap.size w w':=by
 obtain ⟨rs,h1,h2,h3⟩:=h
 exact zAp A AD c cD n U B rs rsL M w h1 h2 (by omega) hk.sym hp (fun t ht=>hk.fitD hn ht fun s hs=>hp s (by omega)) hg hD henv
end
end Go.Proofs.YtfjjcoggoomlbaaGreatDoor
