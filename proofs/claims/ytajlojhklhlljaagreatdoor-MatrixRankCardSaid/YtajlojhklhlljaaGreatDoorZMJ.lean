import Derived.Test.YtajlojhklhlljaaGreatDoorZMF
import Derived.Test.YtajlojhklhlljaaGreatDoorZMD
import Derived.Test.YtajlojhklhlljaaGreatDoorZMI
import Derived.Test.YtajlojhklhlljaaGreatDoorZMP
set_option maxHeartbeats 16000000
set_option maxRecDepth 100000
set_option linter.unusedVariables false
set_option linter.unusedSimpArgs false
set_option linter.unusedSectionVars false
namespace Go.Proofs.YtajlojhklhlljaaGreatDoor
open Go.RowKit
theorem Tryz.infoRats : (Tryz.prog.info? 33).map (fun i => (i.zero, i.size, i.bytes)) = some (some (.slice none 0 0), 1, 24) := by kernel_rfl
section
variable {B : Nat} {w w6 : World} {V V2 : Value} {rs : List RowT} {r : RowT}
theorem MatOwn.zero (B : Nat) (w : World) : MatOwn B w (.slice none 0 0) [] := ⟨World.ownsRow_nil _ _ _ _, fun r hr => (by cases hr)⟩
theorem MatOwn.below (h : MatOwn B w V rs) (hb : Below w.heap.size w w6) : MatOwn B w6 V rs := ⟨own_belowF h.o hb, fun r hr => own_belowF (h.i r hr) hb⟩
theorem MatOwn.push (h : MatOwn B w V rs) (hr : w.ownsRow B 29 1 (.slice r.ad r.ss.length r.cp) r.ss.length (sv r.ss)) (ho : w6.ownsRow B 33 1 V2 (rs.length + 1) (rowt rs ++ [.slice r.ad r.ss.length r.cp])) (hg : w.grownBy w6 V.ownBlock) : MatOwn B w6 V2 (rs ++ [r]) := by
 refine ⟨by rw [List.length_append, List.length_singleton, rowt_snoc]; exact ho, fun a ha => ?_⟩
 rcases List.mem_append.1 ha with h1 | h1
 ·exact (h.i a h1).kept hg (own_ne (h.i a h1) h.o (by decide))
 ·rw [List.mem_singleton.1 h1]
  exact hr.kept hg (own_ne hr h.o (by decide))
theorem MatOwn.read {A : Option Addr} {c : Nat} (h : MatOwn B w (.slice A rs.length c) rs) : MatIn w A rs :=
 ⟨ownLies h.o, fun r hr => by
  obtain ⟨A', c', e, -, hs, -⟩ := own_strs (h.i r hr)
  injection e with e1
  rw [e1]
  exact hs⟩
end
theorem bel_push {B : Nat} {w w1 w2 : World} {V : Value} {o : Obj} (hB : Below B w w1) (hs : B ≤ w1.heap.size) (hg : (w1.alloc o).grownBy w2 V.ownBlock) (hV : ∀ k, V.ownBlock = some k → B ≤ k) : Below B w w2 :=
 (hB.alloc hs o).grown hg (by simp; omega) hV
def RetMat (w : World) (b m n : Nat) (e : Ending) (w' : World) : Prop := ∃ (v : Value) (qss : List (List Rat)) (rs : List RowT), e = .returned v ∧ qss.length = m ∧ (∀ l ∈ qss, l.length = n ∧ ∀ q ∈ l, Small1 q) ∧ rs.map (·.ss) = qss.map (·.map rstr) ∧ MatOwn w.heap.size w' v rs ∧ Src w' b ∧ w.grownBy w' (some b)
theorem MMatrix_any (b m n : Nat) (w : World) (hs : Src w b) (hm : m ≤ 1000) (hn : n ≤ 1000) : Calls Tryz.prog 17 #[.pointer (some ⟨b, 0, none⟩), .int .i64 (m : Int), .int .i64 (n : Int)] w (RetMat w b m n) := by
 obtain ⟨i0, hi, hz0, hz1, hz2⟩ := info_parts Tryz.infoRats
 have HS := Lib.hid hs
 have hbw := hs.lt
 clear hs
 go_enter Tryz.func17, Tryz.ntmps17
 go_wp2_with fail
 go_loopw [7, 8] (fun v iv wr => ∃ (qss : List (List Rat)) (rs : List RowT), iv = .int .i64 (rs.length : Int) ∧ rs.length ≤ m ∧ (∀ l ∈ qss, l.length = n ∧ ∀ q ∈ l, Small1 q) ∧ rs.map (·.ss) = qss.map (·.map rstr) ∧ MatOwn w.heap.size wr v rs ∧ Src wr b ∧ w.grownBy wr (some b)) (fun _ iv _ => m - (intOf iv).toNat)
 case atStart => exact ⟨[], [], rfl, Nat.zero_le _, by simp, rfl, MatOwn.zero _ _, HS.out, World.grownBy.refl _ _⟩
 case round =>
  obtain ⟨qss, rs, rfl, hrm, hsm, hmap, hown, hsr, hgr⟩ := hrel
  obtain ⟨AV, cV, rfl, -⟩ := ownForm hown.o
  have HSM := Lib.hid hsm
  have HMAP := Lib.hid hmap
  have HOWN := Lib.hid hown
  have HSR := Lib.hid hsr
  have HGR := Lib.hid hgr
  have hsz := hgr.size
  clear hsm hown hsr hgr hmap
  by_cases hlt : rs.length < m
  ·go_wp2_with fail
   refine (Rats_any b n wr HSR.out hn).mono ?_
   rintro e w2 ⟨v2, qs, rfl, hql, hqs, ho2, hs2, hg2⟩
   have HG2 := Lib.hid (grown_trans HGR.out hg2)
   have hsz2 : w.heap.size ≤ w2.heap.size := HG2.out.size
   have hMO := HOWN.out.grown hg2 hbw
   obtain ⟨A2, c2, rfl, -⟩ := ownForm ho2
   have HNEW := Lib.hid (ownMono ho2 hsz)
   have HMO := Lib.hid hMO
   have HQL := Lib.hid hql
   have HQS := Lib.hid hqs
   have HS2 := Lib.hid hs2
   have hLN : (qs.map rstr).length ≤ 1000 := by simp; omega
   generalize hss : qs.map rstr = ss at *
   have HSS := Lib.hid hss
   clear ho2 hs2 hg2 hMO hql hqs hss
   go_wp2_with (at_builtin; refine wpList_append_own _ rfl _ _ 27 rfl w.heap.size 33 i0 (.slice none 0 0) 1 24 Tryz.underlying27 hi hz0 hz1 hz2 rfl (by decide) _ _ _ rfl (HMO.out.o.alloc _) ⟨w2.heap.size, 0, none⟩ 1 1 [_] rfl rfl one_new sl_one (by unfold maxLen; omega) (by omega) (by simp; omega) ?_)
   intro v' w3 hown3 hgrow3 _
   have hlt2 : ∀ k, (Value.slice AV rs.length cV).ownBlock = some k → w.heap.size ≤ k := fun k hk => (HMO.out.o.lt k hk).1
   have hbel : Below w.heap.size w2 w3 := bel_push (Below.refl _ _) hsz2 hgrow3 hlt2
   have HM3 := Lib.hid ((HMO.out.below ((Below.refl _ _).alloc (Nat.le_refl _) _)).push (r := ⟨A2, c2, ss⟩) (own_belowF HNEW.out ((Below.refl _ _).alloc (Nat.le_refl _) _)) hown3 hgrow3)
   have HS3 := Lib.hid (HS2.out.above hbel.size (fun i hi => hbel.block i (by omega)))
   have HG3 := Lib.hid (show w.grownBy w3 (some b) from ⟨hbel.os.trans HG2.out.os, hbel.tape.trans HG2.out.tape, hbel.output.trans HG2.out.output, Nat.le_trans HG2.out.size hbel.size, fun k hk hne => (hbel.block k hk).trans (HG2.out.block k hk hne)⟩)
   clear hown3 hgrow3 hbel hlt2
   go_wp2_with fail
   go_roundw
   case rel => exact ⟨qss ++ [qs], rs ++ [⟨A2, c2, ss⟩], by simp only [List.length_append, List.length_singleton]; go_num, by simp; omega, fun l hl => (List.mem_append.1 hl).elim (HSM.out l) (fun h => by rw [List.mem_singleton.1 h]; exact ⟨HQL.out, HQS.out⟩), by rw [List.map_append, List.map_append, HMAP.out]; simp [HSS.out], HM3.out, HS3.out, HG3.out⟩
   case measure => simp [intOf]; omega
  ·have hlm : rs.length = m := by omega
   have HLM := Lib.hid hlm
   clear hlm
   go_wp2_with fail
   go_ret
   exact ⟨_, qss, rs, rfl, by have := congrArg List.length HMAP.out; simp at this; rw [← this]; exact HLM.out, HSM.out, HMAP.out, HOWN.out, HSR.out, HGR.out⟩
def RetCol (w : World) (ss : List ByteArray) (e : Ending) (w' : World) : Prop := ∃ (v : Value) (rs : List RowT), e = .returned v ∧ rs.map (·.ss) = ss.map (fun s => [s]) ∧ MatOwn w.heap.size w' v rs ∧ Below w.heap.size w w'
theorem Column_any (A : Option Addr) (ss : List ByteArray) (c : Nat) (w : World) (h : Strs w A ss) (hl : ss.length ≤ 1000) : Calls Tryz.prog 104 #[.slice A ss.length c] w (RetCol w ss) := by
 obtain ⟨i0, hi, hz0, hz1, hz2⟩ := info_parts Tryz.infoRats
 have HS := Lib.hid h
 clear h
 go_enter Tryz.func104, Tryz.ntmps104
 go_wp2_with fail
 go_loopw [3, 8] (fun v iv wr => ∃ (rs : List RowT), iv = .int .i64 (rs.length : Int) ∧ rs.length ≤ ss.length ∧ rs.map (·.ss) = (ss.take rs.length).map (fun s => [s]) ∧ MatOwn w.heap.size wr v rs ∧ Below w.heap.size w wr) (fun _ iv _ => ss.length - (intOf iv).toNat)
 case atStart => exact ⟨[], rfl, Nat.zero_le _, rfl, MatOwn.zero _ _, Below.refl _ _⟩
 case round =>
  obtain ⟨rs, rfl, hrm, hmap, hown, hb⟩ := hrel
  obtain ⟨AV, cV, rfl, -⟩ := ownForm hown.o
  have HMAP := Lib.hid hmap
  have HOWN := Lib.hid hown
  have HB := Lib.hid hb
  have hsz := hb.size
  clear hmap hown hb
  by_cases hlt : rs.length < ss.length
  ·obtain ⟨b, off, rfl, hbb, hc⟩ := HS.out (by intro e; subst e; simp at hlt)
   have hci := (HB.out.cell (p := ⟨b, off + rs.length, none⟩) hbb).trans (hc rs.length hlt)
   have HTK := Lib.hid (show ss.take (rs.length + 1) = ss.take rs.length ++ [ss[rs.length]] from List.take_succ_eq_append_getElem hlt)
   generalize ss[rs.length] = s at *
   have hx1 : (0 : Int) ≤ (rs.length : Int) := by omega
   have hx2 : (rs.length : Int) < (ss.length : Int) := by omega
   have hmx : rs.length ≤ 1000 := by omega
   have hb1 : Below wr.heap.size wr (wr.alloc (.cells #[.string s] 29)) := (Below.refl _ _).alloc (Nat.le_refl _) _
   have hk1 := Blk.new wr 29 [.string s]
   have HN1 := Lib.hid (show (wr.alloc (.cells #[.string s] 29)).ownsRow w.heap.size 29 1 (.slice (some ⟨wr.heap.size, 0, none⟩) 1 1) 1 (sv [s]) from ⟨rfl, .inr ⟨wr.heap.size, 1, #[.string s], rfl, hsz, hk1, Nat.le_refl _, by decide, rfl, rfl⟩⟩)
   have HMO := Lib.hid (HOWN.out.below hb1)
   have HB1 := Lib.hid (HB.out.alloc hsz (.cells #[.string s] 29))
   clear hc hk1 hb1
   go_wp2_with (at_builtin; refine wpList_append_own _ rfl _ _ 27 rfl w.heap.size 33 i0 (.slice none 0 0) 1 24 Tryz.underlying27 hi hz0 hz1 hz2 rfl (by decide) _ _ _ rfl (HMO.out.o.alloc _) ⟨wr.heap.size + 1, 0, none⟩ 1 1 [.slice (some ⟨wr.heap.size, 0, none⟩) 1 1] rfl rfl (World.news_of_block (cs := #[.slice (some ⟨wr.heap.size, 0, none⟩) 1 1]) (t := 33) (fr := (0, 0)) (Blk.new' (by simp) _ [.slice (some ⟨wr.heap.size, 0, none⟩) 1 1])) sl_one (by unfold maxLen; omega) (by omega) (by simp; omega) ?_)
   intro v' w3 hown3 hgrow3 _
   have hlt2 : ∀ k, (Value.slice AV rs.length cV).ownBlock = some k → w.heap.size ≤ k := fun k hk => (HMO.out.o.lt k hk).1
   have HB3 := Lib.hid (bel_push HB1.out HB1.out.size hgrow3 hlt2)
   have HM3 := Lib.hid ((HMO.out.below ((Below.refl _ _).alloc (Nat.le_refl _) _)).push (r := ⟨some ⟨wr.heap.size, 0, none⟩, 1, [s]⟩) (own_belowF HN1.out ((Below.refl _ _).alloc (Nat.le_refl _) _)) hown3 hgrow3)
   clear hown3 hgrow3 hlt2
   go_wp2_with fail
   go_roundw
   case rel => exact ⟨rs ++ [⟨some ⟨wr.heap.size, 0, none⟩, 1, [s]⟩], by simp only [List.length_append, List.length_singleton]; go_num, by simp; omega, by rw [List.length_append, List.length_singleton, HTK.out, List.map_append, List.map_append, HMAP.out]; rfl, HM3.out, HB3.out⟩
   case measure => simp [intOf]; omega
  ·have HLM := Lib.hid (show rs.length = ss.length by omega)
   go_wp2_with fail
   go_ret
   exact ⟨_, rs, rfl, by have := HMAP.out; rw [HLM.out, List.take_length] at this; exact this, HOWN.out, HB.out⟩
end Go.Proofs.YtajlojhklhlljaaGreatDoor
namespace Go.Proofs.YtajlojhklhlljaaGreatDoor
open Go.RowKit
theorem TabW.congr {B : Nat} {w : World} {V : Value} {rows : List RowN} {P P' : Nat → Nat → Int} (h : TabW B w V rows P) (he : ∀ i, (hi : i < rows.length) → ∀ k, k < rows[i].us.length → P' i k = P i k) : TabW B w V rows P' :=
 ⟨h.o, h.r, h.nd, fun i hi k hk => by rw [he i hi k hk]; exact h.num i hi k hk, h.nor⟩
structure SolS (B lo hi : Nat) (W0 wr : World) (R cR : Nat) (rw : List RowN) (P : Nat → Nat → Int) : Prop where
 tab : TabW B wr (.slice (some ⟨R, 0, none⟩) rw.length cR) rw P
 seg : ∀ k, lo ≤ k → k < hi → wr.heap[k]? = W0.heap[k]?
 num : ∀ v y, IsNum W0 v y → IsNum wr v y
 out : ∀ r ∈ rw, r.g < lo ∨ hi ≤ r.g
 Rout : R < lo ∨ hi ≤ R
 bel : Below B W0 wr
 hi0 : hi ≤ W0.heap.size
 B0 : B ≤ W0.heap.size
section
variable {B lo hi R cR : Nat} {W0 wr w' w8 : World} {rw : List RowN} {P : Nat → Nat → Int}
theorem SolS.below (h : SolS B lo hi W0 wr R cR rw P) (hb : Below wr.heap.size wr w') : SolS B lo hi W0 w' R cR rw P :=
 ⟨h.tab.below hb, fun k h1 h2 => (hb.block k (by have := h.bel.size; have := h.hi0; omega)).trans (h.seg k h1 h2), fun v y hv => (h.num v y hv).below hb, h.out, h.Rout, h.bel.trans (hb.mono (Nat.le_trans h.B0 h.bel.size)), h.hi0, h.B0⟩
theorem SolS.alloc (h : SolS B lo hi W0 wr R cR rw P) (o : Obj) : SolS B lo hi W0 (wr.alloc o) R cR rw P := h.below ((Below.refl _ _).alloc (Nat.le_refl _) o)
theorem SolS.drew (h : SolS B lo hi W0 wr R cR rw P) : SolS B lo hi W0 wr.drew R cR rw P := h.below (Below.refl _ _).drew
theorem SolS.cell (h : SolS B lo hi W0 wr R cR rw P) {p : Addr} (h1 : lo ≤ p.block) (h2 : p.block < hi) : wr.cell? p = W0.cell? p := World.cell?_of_block (w := W0) (h.seg p.block h1 h2)
theorem SolS.mid (h : SolS B lo hi W0 wr R cR rw P) {i : Nat} (hi2 : i < rw.length) (hg : wr.grownBy w8 rw[i].self.ownBlock) {p : Addr} (h1 : lo ≤ p.block) (h2 : p.block < hi) : w8.cell? p = W0.cell? p := by
 refine World.cell?_of_block (w := W0) ((hg.block p.block (by have := h.bel.size; have := h.hi0; omega) (fun e => ?_)).trans (h.seg p.block h1 h2))
 have e2 : p.block = rw[i].g := by injection e
 rcases h.out _ (List.getElem_mem hi2) with h3 | h3 <;> omega
theorem SolS.grow (h : SolS B lo hi W0 wr R cR rw P) {i : Nat} (hi2 : i < rw.length) {r2 : RowN} {u : NumV} {z : Int} (hu2 : r2.us = rw[i].us ++ [u]) (hu : IsNum wr u.val z) (hz : P i rw[i].us.length = z)
  (ho : w8.ownsRow B 81 2 r2.self r2.us.length (numc r2.us)) (hg : wr.grownBy w8 rw[i].self.ownBlock) (hn : NoU w8 r2.self) (hgg : rw[i].g = r2.g ∨ r2.g = wr.heap.size) :
  SolS B lo hi W0 (w8.setCell ⟨R, i, none⟩ r2.self) R cR (rw.set i r2) P := by
 obtain ⟨h1, h2, h3⟩ := h.tab.grow hi2 hu2 hu hz ho hg hn hgg
 have hsz := h.bel.size
 have hh := h.hi0
 refine ⟨by rw [List.length_set]; exact h1, fun k hk1 hk2 => ?_, fun v y hv => h2 v y (h.num v y hv), fun r hr => ?_, h.Rout, h.bel.trans h3, h.hi0, h.B0⟩
 ·rw [Below.heap_setCell w8 ⟨R, i, none⟩ r2.self k (fun e => by have e2 : k = R := e; rcases h.Rout with h4 | h4 <;> omega)]
  refine (hg.block k (by omega) (fun e => ?_)).trans (h.seg k hk1 hk2)
  have e2 : k = rw[i].g := by injection e
  rcases h.out _ (List.getElem_mem hi2) with h4 | h4 <;> omega
 ·rcases List.mem_or_eq_of_mem_set hr with h4 | rfl
  ·exact h.out r h4
  ·rcases hgg with h5 | h5
   ·rw [← h5]; exact h.out _ (List.getElem_mem hi2)
   ·exact .inr (by omega)
theorem SolS.rowAt (h : SolS B lo hi W0 wr R cR rw P) {i : Nat} (hi2 : i < rw.length) : wr.cell? ⟨R, i, none⟩ = some rw[i].self ∧ wr.frozen? ⟨R, i, none⟩ = false := by
 refine ⟨?_, h.tab.o.frozenAt i⟩
 rw [h.tab.o.cellAt i (by omega), List.getElem?_map, List.getElem?_eq_getElem hi2]
 rfl
theorem SolS.rowMid (h : SolS B lo hi W0 wr R cR rw P) {i : Nat} (hi2 : i < rw.length) (hg : wr.grownBy w8 rw[i].self.ownBlock) : w8.cell? ⟨R, i, none⟩ = some rw[i].self ∧ w8.frozen? ⟨R, i, none⟩ = false := by
 have hoo : w8.ownsRow B 114 1 (.slice (some ⟨R, 0, none⟩) rw.length cR) rw.length (rw.map RowN.self) := h.tab.o.kept hg (own_ne h.tab.o (h.tab.r _ (List.getElem_mem hi2)) (by decide))
 refine ⟨?_, hoo.frozenAt i⟩
 rw [hoo.cellAt i (by omega), List.getElem?_map, List.getElem?_eq_getElem hi2]
 rfl
end
end Go.Proofs.YtajlojhklhlljaaGreatDoor
namespace Go.Proofs.YtajlojhklhlljaaGreatDoor
open Go.RowKit
theorem two_one8 {x : Bool} {A : Option Addr} {l c : Nat} : ∀ u ∈ ([.bool x, .slice A l c] : List Value), u.oneCell' = true := by
 intro u hu
 simp at hu
 rcases hu with rfl | rfl <;> rfl
def colT (ss : List ByteArray) : List RowT := ss.map fun s => ⟨none, 0, [s]⟩
theorem colT_length (ss : List ByteArray) : (colT ss).length = ss.length := by simp [colT]
theorem matL_col {rs : List RowT} {ss : List ByteArray} (h : rs.map (·.ss) = ss.map fun s => [s]) : matL rs = matL (colT ss) := by
 have e : ∀ l : List RowT, matL l = (l.map (·.ss)).map (·.map valS) := fun l => by simp [matL]
 rw [e, e, h]
 simp [colT]
theorem mat_col {rs : List RowT} {ss : List ByteArray} (h : rs.map (·.ss) = ss.map fun s => [s]) : rs.length = ss.length ∧ matD rs = matD (colT ss) ∧ matP rs = matP (colT ss) ∧ heft rs 1 = heft (colT ss) 1 := by
 have hl : rs.length = ss.length := by have := congrArg List.length h; simpa using this
 have hL := matL_col h
 have hD : matD rs = matD (colT ss) := by unfold matD; rw [hL]
 have hQ : matQ rs = matQ (colT ss) := by unfold matQ; rw [hL]
 have hP : matP rs = matP (colT ss) := by funext i k; unfold matP; rw [hD, hQ]
 refine ⟨hl, hD, hP, ?_⟩
 unfold heft
 rw [hD, hP, hl, colT_length]
theorem fine_col {rs : List RowT} {ss : List ByteArray} (h : rs.map (·.ss) = ss.map fun s => [s]) (hl : ss.length ≤ 12) (h1 : 1 ≤ ss.length) (hv : ∀ s ∈ ss, vR s = true ∧ s.size ≤ 4000000000) : FineM rs 1 := by
 have hlr := (mat_col h).1
 have hr : ∀ r ∈ rs, ∃ s ∈ ss, r.ss = [s] := fun r hr => by
  have : r.ss ∈ rs.map (·.ss) := List.mem_map.2 ⟨r, hr, rfl⟩
  rw [h] at this
  obtain ⟨s, hs, e⟩ := List.mem_map.1 this
  exact ⟨s, hs, e.symm⟩
 refine ⟨by omega, by decide, fun r h2 => ?_, fun r h2 s h3 => ?_, fun e => by rw [e] at hlr; simp at hlr; omega⟩
 ·obtain ⟨s, -, e⟩ := hr r h2; rw [e]; rfl
 ·obtain ⟨s', hs', e⟩ := hr r h2
  rw [e] at h3
  rw [List.mem_singleton.1 h3]
  exact hv _ hs'
noncomputable def solN (rs : List RowT) (ss : List ByteArray) (i k : Nat) : Int := if k = rs.length then matP (colT ss) i 0 else matP rs i k
noncomputable def solQ (rs : List RowT) (ss : List ByteArray) (s : EliS) (i : Nat) : Rat := Rat.divInt (s.P i rs.length * matD rs) (s.v * matD (colT ss))
def SolPost (heavy : Bool) (s : EliS) (m : Nat) (q : Nat → Rat) (w : World) (e : Ending) (w' : World) : Prop :=
 match heavy with
 | true => e = .returned (.tuple #[.slice none 0 0, .int .i64 3]) ∧ Below w.heap.size w w'
 | false => (s.ps.length < m ∧ e = .returned (.tuple #[.slice none 0 0, .int .i64 6]) ∧ Below w.heap.size w w') ∨ (s.ps.length = m ∧ RetTexts w ((List.range m).map q) e w')
theorem colT_map (ss : List ByteArray) : (colT ss).map (·.ss) = ss.map fun s => [s] := by simp [colT]
theorem sol_LL {rs : List RowT} {ss : List ByteArray} (hf : FineM rs rs.length) (hm1 : 1 ≤ rs.length) (hsl : ss.length = rs.length) (hv : ∀ s ∈ ss, vR s = true ∧ s.size ≤ 4000000000) (h1 : ¬ 600 < heft rs rs.length) (h2 : ¬ 600 < heft (colT ss) 1) : ∀ i k, i < rs.length → LL (solN rs ss i k) ≤ 70 := fun i k hi => by
 have hfc : FineM (colT ss) 1 := fine_col (colT_map ss) (by have := hf.m; omega) (by omega) hv
 unfold solN
 split
 ·exact light_LL hfc (by rw [colT_length]; omega) (by omega) i 0 (by rw [colT_length]; omega)
 ·exact light_LL hf hm1 (by omega) i k hi
theorem Solve_any (A Ab : Option Addr) (c cb : Nat) (rs : List RowT) (ss : List ByteArray) (w : World) (h : MatIn w A rs) (hf : FineM rs rs.length) (hm1 : 1 ≤ rs.length) (hs : Strs w Ab ss) (hsl : ss.length = rs.length) (hv : ∀ s ∈ ss, vR s = true ∧ s.size ≤ 4000000000) (henv : Env w) :
  Calls Tryz.prog 33 #[.slice A rs.length c, .slice Ab ss.length cb] w (SolPost (decide (600 < heft rs rs.length) || decide (600 < heft (colT ss) 1)) (eli rs.length (solN rs ss) rs.length) rs.length (solQ rs ss (eli rs.length (solN rs ss) rs.length)) w) := by
 obtain ⟨i0, hi, hz0, hz1, hz2⟩ := info_parts Tryz.infoNum
 obtain ⟨f0, hf0, hfz0, hfz1, hfz2⟩ := info_parts Tryz.infoFrac
 generalize hQ : SolPost (decide (600 < heft rs rs.length) || decide (600 < heft (colT ss) 1)) (eli rs.length (solN rs ss) rs.length) rs.length (solQ rs ss (eli rs.length (solN rs ss) rs.length)) w = Q
 replace hQ := Lib.hid hQ
 have HM := Lib.hid h
 have HF := Lib.hid hf
 have HE := Lib.hid henv
 have HS := Lib.hid hs
 have HV := Lib.hid hv
 have HSL := Lib.hid hsl
 have hm12 := hf.m
 have HSQ := Lib.hid (square_ok A rs c w h hf henv)
 have hnn : ((ss.length : Int) != (rs.length : Int)) = false := by simp; omega
 have hsl12 : ss.length ≤ 12 := by omega
 have hsl1 : 1 ≤ ss.length := by omega
 clear h hf henv hs hv hsl
 go_enter Tryz.func33, Tryz.ntmps33
 go_wp2_with fail
 refine HSQ.out.mono ?_
 rintro e w1 ⟨rfl, hb1⟩
 have HB1 := Lib.hid hb1
 have HNB := numbers_any Ab ss cb w1 (HS.out.below hb1) (by omega) (fun s hs => (HV.out s hs).2) (HE.out.below hb1)
 rw [show ss.all vR = true from List.all_eq_true.2 fun s hs => (HV.out s hs).1] at HNB
 replace HNB := Lib.hid HNB
 clear hb1
 go_wp2_with fail
 refine HNB.out.mono ?_
 rintro e w1' ⟨rfl, hb1⟩
 have HB1' := Lib.hid (HB1.out.trans (hb1.mono HB1.out.size))
 have HHV := Heavy_any A c rs.length rs w1' (HM.out.below HB1'.out) HF.out hm1 hm1 (HE.out.below HB1'.out)
 clear hb1 hnn
 by_cases hh : 600 < heft rs rs.length
 ·rw [show decide (600 < heft rs rs.length) = true from by simpa using hh] at HHV hQ
  rw [Bool.true_or] at hQ
  replace HHV := Lib.hid HHV
  clear hh
  go_wp2_with fail
  refine HHV.out.mono ?_
  rintro e w2 ⟨rfl, hb2⟩
  have HB2 := Lib.hid (HB1'.out.trans (hb2.mono HB1'.out.size))
  clear hb2
  go_wp2_with fail
  rw [← hQ.out]
  exact ⟨rfl, HB2.out⟩
 ·rw [show decide (600 < heft rs rs.length) = false from by simpa using hh] at HHV hQ
  rw [Bool.false_or] at hQ
  replace HHV := Lib.hid HHV
  have HH := Lib.hid hh
  clear hh
  go_wp2_with fail
  refine HHV.out.mono ?_
  rintro e w2 ⟨rfl, hb2⟩
  have HB2 := Lib.hid (HB1'.out.trans (hb2.mono HB1'.out.size))
  have HCO := Lib.hid (Column_any Ab ss cb w2 (HS.out.below HB2.out) (by omega))
  clear hb2
  go_wp2_with fail
  refine HCO.out.mono ?_
  rintro e w3 ⟨v3, rs3, rfl, hmap3, hmo3, hb3⟩
  have HB3 := Lib.hid (HB2.out.trans (hb3.mono HB2.out.size))
  obtain ⟨A3, c3, rfl, -⟩ := ownForm hmo3.o
  obtain ⟨e1, e2, e3, e4⟩ := mat_col hmap3
  have HHC := Heavy_any A3 c3 1 rs3 w3 hmo3.read (fine_col hmap3 hsl12 hsl1 HV.out) (by omega) (Nat.le_refl _) (HE.out.below HB3.out)
  rw [e4] at HHC
  clear hmo3 hb3 e1 e2 e3 e4 hmap3
  by_cases hh2 : 600 < heft (colT ss) 1
  ·rw [show decide (600 < heft (colT ss) 1) = true from by simpa using hh2] at HHC hQ
   replace HHC := Lib.hid HHC
   clear hh2
   go_wp2_with fail
   refine HHC.out.mono ?_
   rintro e w4 ⟨rfl, hb4⟩
   have HB4 := Lib.hid (HB3.out.trans (hb4.mono HB3.out.size))
   clear hb4
   go_wp2_with fail
   rw [← hQ.out]
   exact ⟨rfl, HB4.out⟩
  ·rw [show decide (600 < heft (colT ss) 1) = false from by simpa using hh2] at HHC hQ
   replace HHC := Lib.hid HHC
   have HH2 := Lib.hid hh2
   clear hh2
   go_wp2_with fail
   refine HHC.out.mono ?_
   rintro e w4 ⟨rfl, hb4⟩
   have HB4 := Lib.hid (HB3.out.trans (hb4.mono HB3.out.size))
   have HOF := Lib.hid (Of_any A c rs.length rs w4 (HM.out.below HB4.out) HF.out hm1 hm1 (HE.out.below HB4.out))
   clear hb4
   go_wp2_with fail
   refine HOF.out.mono ?_
   rintro e w5 ⟨R, cR, rows, dv, rfl, hl, ht, hnV, hnr, hd, hb5⟩
   have HB5 := Lib.hid (HB4.out.trans (hb5.mono HB4.out.size))
   have HTW := Lib.hid ((show TabN w4.heap.size w5 (.slice (some ⟨R, 0, none⟩) rows.length cR) rows rs.length (matP rs) by rw [hl]; exact ht).toW hnr)
   have HL := Lib.hid hl
   have HLU := Lib.hid ht.l
   have HD := Lib.hid hd
   have HCO2 := Lib.hid (Column_any Ab ss cb w5 (HS.out.below HB5.out) (by omega))
   clear hb5 ht hnV hnr hd hl
   go_wp2_with fail
   refine HCO2.out.mono ?_
   rintro e w6 ⟨v6, rs6, rfl, hmap6, hmo6, hb6⟩
   have HB6 := Lib.hid (HB5.out.trans (hb6.mono HB5.out.size))
   obtain ⟨A6, c6, rfl, -⟩ := ownForm hmo6.o
   obtain ⟨e1, e2, e3, e4⟩ := mat_col hmap6
   have HOC := Of_any A6 c6 1 rs6 w6 hmo6.read (fine_col hmap6 hsl12 hsl1 HV.out) (by omega) (Nat.le_refl _) (HE.out.below HB6.out)
   rw [e2, e3] at HOC
   have HTW6 := Lib.hid (HTW.out.below hb6)
   have HD6 := Lib.hid (HD.out.below hb6)
   replace HOC := Lib.hid HOC
   have HL6 := Lib.hid e1
   have HS56 := Lib.hid hb6.size
   clear hmo6 hb6 e1 e2 e3 e4 hmap6
   go_wp2_with fail
   refine HOC.out.mono ?_
   rintro e w7 ⟨R8, cR8, rows8, dv8, rfl, hl8, ht8, -, -, hd8, hb7⟩
   have HB7 := Lib.hid (HB6.out.trans (hb7.mono HB6.out.size))
   have HTW7 := Lib.hid (HTW6.out.below hb7)
   have HD7 := Lib.hid (HD6.out.below hb7)
   have HD8 := Lib.hid hd8
   have HT8 := Lib.hid (show TabR w7 (some ⟨R8, 0, none⟩) rows8 1 (matP (colT ss)) from (show TabN w6.heap.size w7 (.slice (some ⟨R8, 0, none⟩) rows8.length cR8) rows8 1 (matP (colT ss)) by rw [hl8]; exact ht8).read)
   have HL8 := Lib.hid hl8
   have HR8 := Lib.hid (ht8.o.lt R8 rfl)
   have HG8 := Lib.hid (fun j (hj : j < rows8.length) => ht8.blk hj)
   have HS67 := Lib.hid hb7.size
   clear ht8 hd8 hb7 hl8
   go_wp2_with fail
   have HX7 := Lib.hid ((Blk.new w7 84 [.bool dv.nb, .slice dv.ad dv.l dv.c, .slice (some ⟨R, 0, none⟩) rs.length cR]).alloc (.cells #[.bool dv8.nb, .slice dv8.ad dv8.l dv8.c, .slice (some ⟨R8, 0, none⟩) rs6.length cR8] 84))
   have HX8 := Lib.hid (Blk.new' (w := w7.alloc (.cells #[.bool dv.nb, .slice dv.ad dv.l dv.c, .slice (some ⟨R, 0, none⟩) rs.length cR] 84)) (g := w7.heap.size + 1) (by simp) 84 [.bool dv8.nb, .slice dv8.ad dv8.l dv8.c, .slice (some ⟨R8, 0, none⟩) rs6.length cR8])
   have hbW : Below w7.heap.size w7 ((w7.alloc (.cells #[.bool dv.nb, .slice dv.ad dv.l dv.c, .slice (some ⟨R, 0, none⟩) rs.length cR] 84)).alloc (.cells #[.bool dv8.nb, .slice dv8.ad dv8.l dv8.c, .slice (some ⟨R8, 0, none⟩) rs6.length cR8] 84)) := ((Below.refl _ _).alloc (Nat.le_refl _) _).alloc (by simp) _
   have HS0 := Lib.hid (show SolS w4.heap.size w5.heap.size (w7.heap.size + 2) ((w7.alloc (.cells #[.bool dv.nb, .slice dv.ad dv.l dv.c, .slice (some ⟨R, 0, none⟩) rs.length cR] 84)).alloc (.cells #[.bool dv8.nb, .slice dv8.ad dv8.l dv8.c, .slice (some ⟨R8, 0, none⟩) rs6.length cR8] 84)) ((w7.alloc (.cells #[.bool dv.nb, .slice dv.ad dv.l dv.c, .slice (some ⟨R, 0, none⟩) rs.length cR] 84)).alloc (.cells #[.bool dv8.nb, .slice dv8.ad dv8.l dv8.c, .slice (some ⟨R8, 0, none⟩) rs6.length cR8] 84)) R cR rows (solN rs ss) from
    ⟨(HTW7.out.below hbW).congr (fun i hi k hk => by
     have h9 := HLU.out _ (List.getElem_mem hi)
     unfold solN
     rw [if_neg (by omega)]), fun k _ _ => rfl, fun v y hv => hv, fun r hr => .inl ((HTW.out.r r hr).lt _ rfl).2, .inl (HTW.out.o.lt R rfl).2, Below.refl _ _, by simp, by have := HB5.out.size; have := HTW.out.o.lt R rfl; have := HS56.out; have := HS67.out; simp; omega⟩)
   have HT8W := Lib.hid (HT8.out.below hbW)
   have HLR := Lib.hid (fun j (hj : j < rows.length) => HLU.out _ (List.getElem_mem hj))
   have HBW := Lib.hid (HB7.out.trans (hbW.mono HB7.out.size))
   have HD7W := Lib.hid (HD7.out.below hbW)
   have HD8W := Lib.hid (HD8.out.below hbW)
   clear hbW
   generalize ((w7.alloc (.cells #[.bool dv.nb, .slice dv.ad dv.l dv.c, .slice (some ⟨R, 0, none⟩) rs.length cR] 84)).alloc (.cells #[.bool dv8.nb, .slice dv8.ad dv8.l dv8.c, .slice (some ⟨R8, 0, none⟩) rs6.length cR8] 84)) = W0 at *
   generalize w7.heap.size = x at *
   go_loopw [45] (fun iv wr => ∃ (i : Nat) (rw : List RowN), iv = .int .i64 (i : Int) ∧ i ≤ rs.length ∧ rw.length = rs.length ∧ (∀ j, (h : j < rw.length) → rw[j].us.length = if j < i then rs.length + 1 else rs.length) ∧ SolS w4.heap.size w5.heap.size (x + 2) W0 wr R cR rw (solN rs ss)) (fun iv _ => rs.length - (intOf iv).toNat)
   case atStart => exact ⟨0, rows, rfl, Nat.zero_le _, HL.out, fun j hj => by rw [if_neg (by omega)]; exact HLR.out j hj, HS0.out⟩
   case round =>
    obtain ⟨i, rw, rfl, hi2, hrl, hul, hts⟩ := hrel
    have HRL := Lib.hid hrl
    have HUL := Lib.hid hul
    have HTS := Lib.hid hts
    by_cases hlt : i < rs.length
    ·have hi3 : i < rw.length := by omega
     have hi8 : i < rows8.length := by have := HL8.out; have := HL6.out; have := HSL.out; omega
     have s56 := HS56.out
     have s67 := HS67.out
     have r8 := HR8.out
     have g8 := HG8.out i hi8
     have d0 := HX7.out.at_ (i := 2) rfl
     have d1 := HX8.out.at_ (i := 2) rfl
     have d2 := HT8W.out.o.at_ (i := i) (List.getElem?_eq_getElem (by simpa using hi8))
     simp only [List.getElem_map, RowN.val, Nat.zero_add] at d2
     have hr8 := HT8W.out.r _ (List.getElem_mem hi8)
     have hl8 := HT8W.out.l _ (List.getElem_mem hi8)
     have hn8 := HT8W.out.num i hi8
     generalize rows8[i] = q8 at *
     obtain ⟨rg8, rc8, us8⟩ := q8
     simp only at d2 hr8 hl8 hn8 g8
     have h08 : 0 < us8.length := by omega
     have d3 := hr8.at_ (numc_get h08).1
     have d4 := hr8.at_ (numc_get h08).2
     simp only [Nat.zero_mul, Nat.zero_add] at d3 d4
     have hz8 : IsNum W0 us8[0].val (matP (colT ss) i 0) := hn8 0 h08
     generalize us8[0] = u8 at *
     obtain ⟨nbz, Sz, lz, cz⟩ := u8
     clear hr8 hl8 hn8 h08
     have huli := hul i hi3
     rw [if_neg (by omega)] at huli
     have hmem := List.getElem_mem hi3
     obtain ⟨r, hr⟩ : ∃ r, rw[i] = r := ⟨_, rfl⟩
     have HRE := Lib.hid hr
     rw [hr] at huli hmem
     obtain ⟨rg, rc, us⟩ := r
     replace huli : us.length = rs.length := huli
     have hself : RowN.self ⟨rg, rc, us⟩ = .slice (some ⟨rg, 0, none⟩) rs.length rc := self_val huli
     have hta := (hts.alloc (.cells #[.bool nbz, .slice Sz lz cz] 81)).drew
     have HNZ := Lib.hid (show IsNum (wr.alloc (.cells #[.bool nbz, .slice Sz lz cz] 81)).drew (NumV.val ⟨nbz, Sz, lz, cz⟩) (matP (colT ss) i 0) from (hts.num _ _ hz8).below ((Below.refl _ _).alloc (Nat.le_refl _) _).drew)
     have HOA := Lib.hid (show (wr.alloc (.cells #[.bool nbz, .slice Sz lz cz] 81)).drew.ownsRow w4.heap.size 81 2 (.slice (some ⟨rg, 0, none⟩) rs.length rc) rs.length (numc us) from by
      have h9 := hta.tab.r _ hmem
      rw [hself, huli] at h9
      exact h9)
     have HNA := Lib.hid (show NoU (wr.alloc (.cells #[.bool nbz, .slice Sz lz cz] 81)).drew (.slice (some ⟨rg, 0, none⟩) rs.length rc) from by
      have h9 := hta.tab.nor _ hmem
      rw [hself] at h9
      exact h9)
     have HBA := Lib.hid (show w4.heap.size ≤ (wr.alloc (.cells #[.bool nbz, .slice Sz lz cz] 81)).drew.heap.size from Nat.le_trans hta.B0 hta.bel.size)
     have HGR := Lib.hid (fun (g2 cap2 : Nat) (w8 : World) (h1 : w8.ownsRow w4.heap.size 81 2 (.slice (some ⟨g2, 0, none⟩) (rs.length + 1) cap2) (rs.length + 1) (numc us ++ [.bool nbz, .slice Sz lz cz])) (h2 : (wr.alloc (.cells #[.bool nbz, .slice Sz lz cz] 81)).drew.grownBy w8 (Value.slice (some ⟨rg, 0, none⟩) rs.length rc).ownBlock) (h3 : NoU w8 (.slice (some ⟨g2, 0, none⟩) (rs.length + 1) cap2)) (h4 : (Value.slice (some ⟨rg, 0, none⟩) rs.length rc).ownBlock = some g2 ∨ g2 = (wr.alloc (.cells #[.bool nbz, .slice Sz lz cz] 81)).drew.heap.size) =>
      (show SolS w4.heap.size w5.heap.size (x + 2) W0 (w8.setCell ⟨R, i, none⟩ (.slice (some ⟨g2, 0, none⟩) (rs.length + 1) cap2)) R cR (rw.set i ⟨g2, cap2, us ++ [⟨nbz, Sz, lz, cz⟩]⟩) (solN rs ss) from by
       have e1 : RowN.self ⟨g2, cap2, us ++ [⟨nbz, Sz, lz, cz⟩]⟩ = .slice (some ⟨g2, 0, none⟩) (rs.length + 1) cap2 := self_val (by simp only [List.length_append, List.length_singleton]; omega)
       have h9 := hta.grow (w8 := w8) hi3 (r2 := ⟨g2, cap2, us ++ [⟨nbz, Sz, lz, cz⟩]⟩) (u := ⟨nbz, Sz, lz, cz⟩) (z := matP (colT ss) i 0) (by rw [HRE.out]) HNZ.out (by rw [HRE.out]; unfold solN; rw [if_pos huli]) (by rw [e1, show (us ++ [(⟨nbz, Sz, lz, cz⟩ : NumV)]).length = rs.length + 1 by simp only [List.length_append, List.length_singleton]; omega, numc_snoc]; exact h1) (by rw [HRE.out, hself]; exact h2) (by rw [e1]; exact h3) (by rw [HRE.out]; exact h4.imp (fun h5 => by injection h5 with h6) id)
       rw [e1] at h9
       exact h9))
     have HRM := Lib.hid (fun (w8 : World) (h2 : (wr.alloc (.cells #[.bool nbz, .slice Sz lz cz] 81)).drew.grownBy w8 (Value.slice (some ⟨rg, 0, none⟩) rs.length rc).ownBlock) => (show w8.cell? ⟨R, i, none⟩ = some (.slice (some ⟨rg, 0, none⟩) rs.length rc) ∧ w8.frozen? ⟨R, i, none⟩ = false from by
      have h9 := hta.rowMid hi3 (w8 := w8) (by rw [HRE.out, hself]; exact h2)
      rw [HRE.out, hself] at h9
      exact h9))
     have HMD := Lib.hid (fun (w8 : World) (h2 : (wr.alloc (.cells #[.bool nbz, .slice Sz lz cz] 81)).drew.grownBy w8 (Value.slice (some ⟨rg, 0, none⟩) rs.length rc).ownBlock) => (show w8.cell? ⟨x, 2, none⟩ = some (.slice (some ⟨R, 0, none⟩) rs.length cR) ∧ w8.cell? ⟨x + 1, 2, none⟩ = some (.slice (some ⟨R8, 0, none⟩) rs6.length cR8) ∧ w8.cell? ⟨R8, i, none⟩ = some (.slice (some ⟨rg8, 0, none⟩) 1 rc8) ∧ w8.cell? ⟨rg8, 0, none⟩ = some (.bool nbz) ∧ w8.cell? ⟨rg8, 1, none⟩ = some (.slice Sz lz cz) from by
      have h3 : (wr.alloc (.cells #[.bool nbz, .slice Sz lz cz] 81)).drew.grownBy w8 rw[i].self.ownBlock := by rw [HRE.out, hself]; exact h2
      exact ⟨(hta.mid hi3 h3 (by show w5.heap.size ≤ x; omega) (by show x < x + 2; omega)).trans d0, (hta.mid hi3 h3 (by show w5.heap.size ≤ x + 1; omega) (by show x + 1 < x + 2; omega)).trans d1, (hta.mid hi3 h3 (by show w5.heap.size ≤ R8; omega) (by show R8 < x + 2; omega)).trans d2, (hta.mid hi3 h3 (by show w5.heap.size ≤ rg8; omega) (by show rg8 < x + 2; omega)).trans d3, (hta.mid hi3 h3 (by show w5.heap.size ≤ rg8; omega) (by show rg8 < x + 2; omega)).trans d4⟩))
     have p0 := (hts.cell (by show w5.heap.size ≤ x; omega) (by show x < x + 2; omega)).trans d0
     have p1 := (hts.cell (by show w5.heap.size ≤ x + 1; omega) (by show x + 1 < x + 2; omega)).trans d1
     have p2 := (hts.cell (by show w5.heap.size ≤ R8; omega) (by show R8 < x + 2; omega)).trans d2
     have p3 := (hts.cell (by show w5.heap.size ≤ rg8; omega) (by show rg8 < x + 2; omega)).trans d3
     have p4 := (hts.cell (by show w5.heap.size ≤ rg8; omega) (by show rg8 < x + 2; omega)).trans d4
     have p5 := (hts.rowAt hi3).1
     have p5a := (hta.rowAt hi3).1
     rw [HRE.out, hself] at p5 p5a
     have KS0 : Hid (wr.drew.cell? ⟨x, 2, none⟩ = some (.slice (some ⟨R, 0, none⟩) rs.length cR) ∧ wr.drew.cell? ⟨x + 1, 2, none⟩ = some (.slice (some ⟨R8, 0, none⟩) rs6.length cR8) ∧ wr.drew.cell? ⟨R8, i, none⟩ = some (.slice (some ⟨rg8, 0, none⟩) 1 rc8) ∧ wr.drew.cell? ⟨rg8, 0, none⟩ = some (.bool nbz) ∧ wr.drew.cell? ⟨rg8, 1, none⟩ = some (.slice Sz lz cz)) := Lib.hid ⟨p0, p1, p2, p3, p4⟩
     have KSA : Hid ((wr.alloc (.cells #[.bool nbz, .slice Sz lz cz] 81)).drew.cell? ⟨x, 2, none⟩ = some (.slice (some ⟨R, 0, none⟩) rs.length cR) ∧ (wr.alloc (.cells #[.bool nbz, .slice Sz lz cz] 81)).drew.cell? ⟨x + 1, 2, none⟩ = some (.slice (some ⟨R8, 0, none⟩) rs6.length cR8) ∧ (wr.alloc (.cells #[.bool nbz, .slice Sz lz cz] 81)).drew.cell? ⟨R8, i, none⟩ = some (.slice (some ⟨rg8, 0, none⟩) 1 rc8) ∧ (wr.alloc (.cells #[.bool nbz, .slice Sz lz cz] 81)).drew.cell? ⟨rg8, 0, none⟩ = some (.bool nbz) ∧ (wr.alloc (.cells #[.bool nbz, .slice Sz lz cz] 81)).drew.cell? ⟨rg8, 1, none⟩ = some (.slice Sz lz cz)) := Lib.hid ⟨(hta.cell (by show w5.heap.size ≤ x; omega) (by show x < x + 2; omega)).trans d0, (hta.cell (by show w5.heap.size ≤ x + 1; omega) (by show x + 1 < x + 2; omega)).trans d1, (hta.cell (by show w5.heap.size ≤ R8; omega) (by show R8 < x + 2; omega)).trans d2, (hta.cell (by show w5.heap.size ≤ rg8; omega) (by show rg8 < x + 2; omega)).trans d3, (hta.cell (by show w5.heap.size ≤ rg8; omega) (by show rg8 < x + 2; omega)).trans d4⟩
     have i1 : (0 : Int) ≤ (i : Int) := by omega
     have i2 : (i : Int) < (rs.length : Int) := by omega
     have i3 : (i : Int) < (rs6.length : Int) := by have := HL6.out; have := HSL.out; omega
     have hR5 : R < w5.heap.size := (HTW.out.o.lt R rfl).2
     have nR0 : ¬ (R = x) := by omega
     have nR1 : ¬ (x = R) := by omega
     have nR2 : ¬ (R = x + 1) := by omega
     have nR3 : ¬ (x + 1 = R) := by omega
     have nR4 : ¬ (R = R8) := by omega
     have nR5 : ¬ (R8 = R) := by omega
     have nR6 : ¬ (R = rg8) := by omega
     have nR7 : ¬ (rg8 = R) := by omega
     clear hta hts hul huli hself hmem hr hrl d0 d1 d2 d3 d4 hz8 s56 s67 r8 g8
     go_wp2_with fail
     refine wp_region_tail (S := (fun w' => w'.cell? ⟨R, i, none⟩ = some (.slice (some ⟨rg, 0, none⟩) rs.length rc) ∧ w'.cell? ⟨x, 2, none⟩ = some (.slice (some ⟨R, 0, none⟩) rs.length cR) ∧ w'.cell? ⟨x + 1, 2, none⟩ = some (.slice (some ⟨R8, 0, none⟩) rs6.length cR8) ∧ w'.cell? ⟨R8, i, none⟩ = some (.slice (some ⟨rg8, 0, none⟩) 1 rc8) ∧ w'.cell? ⟨rg8, 0, none⟩ = some (.bool nbz) ∧ w'.cell? ⟨rg8, 1, none⟩ = some (.slice Sz lz cz))) 18 (by kernel_rfl) rfl (by kernel_rfl) (by kernel_rfl) rfl (by exact ⟨p5, KS0.out⟩) (fun hHeld => ?_)
     simp only [List.pop_toArray, List.dropLast_cons_cons, List.dropLast_singleton]
     refine tkH 0 hHeld ?_
     try simp only [Act.put, tkA, tkB, tkC]
     refine tkH 1 hHeld ?_
     try simp only [Act.put, tkA, tkB, tkC]
     refine tkH 2 hHeld ?_
     try simp only [Act.put, tkA, tkB, tkC]
     refine tkH 3 hHeld ?_
     try simp only [Act.put, tkA, tkB, tkC]
     refine tkH 4 hHeld ?_
     try simp only [Act.put, tkA, tkB, tkC]
     refine tkH 5 hHeld ?_
     try simp only [Act.put, tkA, tkB, tkC]
     refine tkH 6 hHeld ?_
     try simp only [Act.put, tkA, tkB, tkC]
     refine tkH 7 hHeld ?_
     try simp only [Act.put, tkA, tkB, tkC]
     refine tkH 8 hHeld ?_
     try simp only [Act.put, tkA, tkB, tkC]
     refine tkH 9 hHeld ?_
     try simp only [Act.put, tkA, tkB, tkC]
     refine tkH 10 hHeld ?_
     try simp only [Act.put, tkA, tkB, tkC]
     refine tkH 11 hHeld ?_
     try simp only [Act.put, tkA, tkB, tkC]
     refine tkH 12 hHeld ?_
     try simp only [Act.put, tkA, tkB, tkC]
     refine tkH 13 hHeld ?_
     try simp only [Act.put, tkA, tkB, tkC]
     refine tkH 14 hHeld ?_
     try simp only [Act.put, tkA, tkB, tkC]
     refine wpAnyH_ready (rs := [15]) (by kernel_rfl) (by simp) ?_
     refine AllReadyH.cons rfl (fun K hK => ?_) AllReadyH.nil
     go_simp
     refine hK.out _ _ ?_ (fun hHeld => ?_)
     ·first | exact ⟨p5, KS0.out⟩ | exact ⟨p5a, KSA.out⟩ | exact ⟨u6, KS8.out⟩
     clear hK K
     try simp only [Act.put, tkA, tkB, tkC]
     refine wpAnyH_ready (rs := [16]) (by kernel_rfl) (by simp) ?_
     refine AllReadyH.cons rfl (fun K hK => ?_) AllReadyH.nil
     (refine step_append_both _ (by rfl) _ _ _ (by rfl) w4.heap.size 81 i0 _ 2 32 Tryz.underlying114 hi hz0 hz1 hz2 rfl (by decide) (.slice (some ⟨rg, 0, none⟩) rs.length rc) rs.length (numc us) (by go_simp) HOA.out ⟨wr.heap.size, 0, none⟩ 1 1 [.bool nbz, .slice Sz lz cz] (by go_simp) rfl (World.news_of_block (cs := #[.bool nbz, .slice Sz lz cz]) (t := 81) (fr := (0, 0)) (heap_alloc_new wr _)) two_one8 (by omega) (by unfold maxLen; omega) (by omega) HBA.out HNA.out numz_no nums_no ?_; intro g2 cap2 w8 hown8 hgrow8 hno8 hgg8; have HG := Lib.hid (HGR.out g2 cap2 w8 hown8 hgrow8 hno8 hgg8); have hrm := HRM.out w8 hgrow8; have u6 := hrm.1; have u7 := hrm.2; have KS8 := Lib.hid (HMD.out w8 hgrow8); obtain ⟨u0, u1, u2, u3, u4⟩ := KS8.out; clear hown8 hgrow8 hno8 hgg8 hrm)
     refine hK.out _ _ ?_ (fun hHeld => ?_)
     ·first | exact ⟨p5, KS0.out⟩ | exact ⟨p5a, KSA.out⟩ | exact ⟨u6, KS8.out⟩
     clear hK K
     try simp only [Act.put, tkA, tkB, tkC]
     refine tkH 17 hHeld ?_
     try simp only [Act.put, tkA, tkB, tkC]
     refine wpAnyH_done (by kernel_rfl) ?_ _
     simp only [tailQ, List.getElem_toArray, List.getElem_cons_succ, List.getElem_cons_zero]
     all_goals
      go_wp2_with fail
      go_roundw
      case rel => exact ⟨i + 1, rw.set i ⟨g2, cap2, us ++ [⟨nbz, Sz, lz, cz⟩]⟩, by go_num, by omega, by rw [List.length_set]; exact HRL.out, fun j hj => by
       have hj' : j < rw.length := by simpa using hj
       by_cases e : j = i
       ·subst e
        rw [List.getElem_set_self, if_pos (by omega)]
        simp only [List.length_append, List.length_singleton]
        have h9 := HUL.out j hj'
        rw [if_neg (by omega), HRE.out] at h9
        have h8 : us.length = rs.length := h9
        omega
       ·rw [List.getElem_set_ne (Ne.symm e), HUL.out j hj']
        by_cases e2 : j < i
        ·rw [if_pos e2, if_pos (by omega)]
        ·rw [if_neg e2, if_neg (by omega)], HG.out⟩
      case measure => simp [intOf]; omega
    ·obtain rfl : i = rs.length := by omega
     have hall : ∀ r ∈ rw, r.us.length = rs.length + 1 := fun r hr => by
      obtain ⟨j, hj, rfl⟩ := List.getElem_of_mem hr
      rw [hul j hj, if_pos (by omega)]
     have HLS := Lib.hid (sol_LL HF.out hm1 HSL.out HV.out HH.out HH2.out)
     have HRD := Reduce_any (some ⟨R, 0, none⟩) cR (rs.length + 1) rs.length rw (solN rs ss) wr (hts.tab.toN hall).read (by omega) (by omega) (by omega) (by omega) (by omega) (fun i k hi => HLS.out i k (by omega))
     rw [hrl] at HRD
     replace HRD := Lib.hid HRD
     have s56 := HS56.out
     have s67 := HS67.out
     have p0 := (hts.cell (p := ⟨x, 2, none⟩) (by show w5.heap.size ≤ x; omega) (by show x < x + 2; omega)).trans (HX7.out.at_ (i := 2) rfl)
     have HXA := Lib.hid (show Blk wr x 84 [.bool dv.nb, .slice dv.ad dv.l dv.c, .slice (some ⟨R, 0, none⟩) rs.length cR] from (hts.seg x (by omega) (by omega)).trans HX7.out)
     have HXB := Lib.hid (show Blk wr (x + 1) 84 [.bool dv8.nb, .slice dv8.ad dv8.l dv8.c, .slice (some ⟨R8, 0, none⟩) rs6.length cR8] from (hts.seg (x + 1) (by omega) (by omega)).trans HX8.out)
     have HDA := Lib.hid (hts.num _ _ HD7W.out)
     have HDB := Lib.hid (hts.num _ _ HD8W.out)
     have HBr := Lib.hid (show Below w4.heap.size W0 wr from hts.bel)
     clear hall hul hts hrl s56 s67 HUL HTS
     go_wp2_with fail
     refine HRD.out.mono ?_
     rintro e w9 ⟨R4, cR4, rows4, pv, v, rfl, hl4, hrr, hb9⟩
     obtain ⟨Ap, cp, rfl, -⟩ := ownForm hrr.pvt
     have HBq := Lib.hid (HBW.out.trans (HBr.out.mono HB4.out.size))
     have HB9 := Lib.hid (HBq.out.trans (hb9.mono HBq.out.size))
     have HEL := Lib.hid (eli_len (m := rs.length) (fun i k hi => HLS.out i k hi) LL_one rs.length)
     have hv0 : (eli rs.length (solN rs ss) rs.length).v ≠ 0 := by
      obtain ⟨F, hg, -⟩ := eli_gau rs.length (solN rs ss) rs.length
      intro e
      exact hg.v0 (by rw [e]; rfl)
     have HXA9 := Lib.hid (HXA.out.below hb9)
     have HXB9 := Lib.hid (HXB.out.below hb9)
     have HDA9 := Lib.hid (HDA.out.below hb9)
     have HDB9 := Lib.hid (HDB.out.below hb9)
     generalize eli rs.length (solN rs ss) rs.length = s at *
     obtain ⟨pl, hpl⟩ : ∃ pl, s.ps.length = pl := ⟨_, rfl⟩
     have HPL := Lib.hid hpl
     rw [hpl] at HEL
     rw [hpl]
     have HB10 := Lib.hid (HB9.out.alloc HB9.out.size (.cells #[.slice (some ⟨R4, 0, none⟩) rs.length cR4, .slice Ap pl cp, .bool v.nb, .slice v.ad v.l v.c, .bool s.odd] 87))
     have HT10 := Lib.hid (Blk.new w9 87 [.slice (some ⟨R4, 0, none⟩) rs.length cR4, .slice Ap pl cp, .bool v.nb, .slice v.ad v.l v.c, .bool s.odd])
     have HR10 := hrr.below ((Below.refl _ _).alloc (Nat.le_refl _) (.cells #[.slice (some ⟨R4, 0, none⟩) rs.length cR4, .slice Ap pl cp, .bool v.nb, .slice v.ad v.l v.c, .bool s.odd] 87))
     rw [hpl] at HR10
     replace HR10 := Lib.hid HR10
     have HXA10 := Lib.hid (HXA9.out.alloc (.cells #[.slice (some ⟨R4, 0, none⟩) rs.length cR4, .slice Ap pl cp, .bool v.nb, .slice v.ad v.l v.c, .bool s.odd] 87))
     have HXB10 := Lib.hid (HXB9.out.alloc (.cells #[.slice (some ⟨R4, 0, none⟩) rs.length cR4, .slice Ap pl cp, .bool v.nb, .slice v.ad v.l v.c, .bool s.odd] 87))
     have HDA10 := Lib.hid (HDA9.out.below ((Below.refl _ _).alloc (Nat.le_refl _) (.cells #[.slice (some ⟨R4, 0, none⟩) rs.length cR4, .slice Ap pl cp, .bool v.nb, .slice v.ad v.l v.c, .bool s.odd] 87)))
     have HDB10 := Lib.hid (HDB9.out.below ((Below.refl _ _).alloc (Nat.le_refl _) (.cells #[.slice (some ⟨R4, 0, none⟩) rs.length cR4, .slice Ap pl cp, .bool v.nb, .slice v.ad v.l v.c, .bool s.odd] 87)))
     have HL4 := Lib.hid hl4
     clear hb9 hrr hl4 hpl p0
     by_cases hlt9 : pl < rs.length
     ·have hx9 : (pl : Int) < (rs.length : Int) := by omega
      go_wp2_with fail
      rw [← hQ.out]
      exact .inl ⟨by rw [HPL.out]; exact hlt9, rfl, HB10.out⟩
     ·have hx9 : ¬ (pl : Int) < (rs.length : Int) := by omega
      have hpe : pl = rs.length := by have := HEL.out.2.2; omega
      have HPE := Lib.hid hpe
      clear hpe
      go_wp2_with fail
      generalize (w9.alloc (.cells #[.slice (some ⟨R4, 0, none⟩) rs.length cR4, .slice Ap pl cp, .bool v.nb, .slice v.ad v.l v.c, .bool s.odd] 87)) = W at *
      generalize w9.heap.size = y at *
      go_loopw [11, 81] (fun ov iv wr => ∃ (k : Nat) (us : List FrV), iv = .int .i64 (k : Int) ∧ k ≤ rs.length ∧ us.length = k ∧ wr.ownsRow W.heap.size 93 4 ov k (frc us) ∧ NoU wr ov ∧ IsFracs wr us ((List.range k).map (solQ rs ss s)) ∧ Below W.heap.size W wr) (fun _ iv _ => rs.length - (intOf iv).toNat)
      case atStart => exact ⟨0, [], rfl, Nat.zero_le _, rfl, World.ownsRow_nil _ _ _ _, NoU.nil _ _ _, IsFracs.nil _, Below.refl _ _⟩
      case round =>
       obtain ⟨k, us, rfl, hk9, hul, hown, hno, hfr, hbW⟩ := hrel
       obtain ⟨Ao, co, rfl, -⟩ := ownForm hown
       have HUS := Lib.hid hul
       have HOW := Lib.hid hown
       have HNO := Lib.hid hno
       have HFR := Lib.hid hfr
       have HBV := Lib.hid hbW
       clear hul hown hno hfr
       by_cases hlt2 : k < rs.length
       ·have hk4 : k < rows4.length := by have := HL4.out; omega
        have hrr := HR10.out.below hbW
        have c0 := hrr.tab.cell (by rw [HL4.out]) hk4
        have i1 : (0 : Int) ≤ (k : Int) := by omega
        have i2 : (k : Int) < (rs.length : Int) := by omega
        have hrW := HR10.out
        obtain ⟨nz, Sz, lz, cz, p5, p6, hz⟩ := hrW.tab.num_at hk4 (k := rs.length) (by omega)
        have c1 := HXA10.out.at_ (i := 0) rfl
        have c2 := HXA10.out.at_ (i := 1) rfl
        have c3 := HXB10.out.at_ (i := 0) rfl
        have c4 := HXB10.out.at_ (i := 1) rfl
        have c5 := HT10.out.at_ (i := 2) rfl
        have c6 := HT10.out.at_ (i := 3) rfl
        have HVv := Lib.hid (show IsNum wr (.agg #[.bool v.nb, .slice v.ad v.l v.c]) s.v from hrr.val)
        have HDv := Lib.hid (show IsNum wr (.agg #[.bool dv.nb, .slice dv.ad dv.l dv.c]) (matD rs) from HDA10.out.below hbW)
        have HD8v := Lib.hid (show IsNum wr (.agg #[.bool dv8.nb, .slice dv8.ad dv8.l dv8.c]) (matD (colT ss)) from HDB10.out.below hbW)
        have hzl := HEL.out.1 k rs.length hlt2
        have hvl := HEL.out.2.1
        have hg1 : grw 70 pl ≤ 300000 := grw_le (Nat.le_refl _) (by have := HEL.out.2.2; omega)
        have hd1 := matD_LL HF.out
        have hd2 := matD_LL (fine_col (colT_map ss) hsl12 hsl1 HV.out)
        have HKQ := Lib.hid (show Rat.divInt (s.P k rs.length * matD rs) (s.v * matD (colT ss)) = solQ rs ss s k from rfl)
        have hdz : s.v * matD (colT ss) ≠ 0 := Int.mul_ne_zero hv0 (by have := matD_pos (colT ss); omega)
        generalize rows4[k].g = rg at *
        generalize rows4[k].cp = rc at *
        obtain ⟨z, hzz⟩ : ∃ z, s.P k rs.length = z := ⟨_, rfl⟩
        rw [hzz] at hz hzl HKQ
        have HZ := Lib.hid (hz.below hbW)
        have hm1' := LL_mul z (matD rs)
        have hm2' := LL_mul s.v (matD (colT ss))
        unfold LL at hzl hvl hd1 hd2 hm1' hm2'
        have KB := Lib.hid (fun W' (hW : Below W.heap.size W W') => (show W'.cell? ⟨rg, rs.length * 2, none⟩ = some (.bool nz) ∧ W'.cell? ⟨rg, rs.length * 2 + 1, none⟩ = some (.slice Sz lz cz) ∧ W'.cell? ⟨x, 0, none⟩ = some (.bool dv.nb) ∧ W'.cell? ⟨x, 1, none⟩ = some (.slice dv.ad dv.l dv.c) ∧ W'.cell? ⟨y, 2, none⟩ = some (.bool v.nb) ∧ W'.cell? ⟨y, 3, none⟩ = some (.slice v.ad v.l v.c) ∧ W'.cell? ⟨x + 1, 0, none⟩ = some (.bool dv8.nb) ∧ W'.cell? ⟨x + 1, 1, none⟩ = some (.slice dv8.ad dv8.l dv8.c) from ⟨(hW.cell (World.block_lt_of_cell? _ _ p5)).trans p5, (hW.cell (World.block_lt_of_cell? _ _ p6)).trans p6, (hW.cell (World.block_lt_of_cell? _ _ c1)).trans c1, (hW.cell (World.block_lt_of_cell? _ _ c2)).trans c2, (hW.cell (World.block_lt_of_cell? _ _ c5)).trans c5, (hW.cell (World.block_lt_of_cell? _ _ c6)).trans c6, (hW.cell (World.block_lt_of_cell? _ _ c3)).trans c3, (hW.cell (World.block_lt_of_cell? _ _ c4)).trans c4⟩))
        have KS0 := Lib.hid (KB.out _ HBV.out.drew)
        have i5 : (0 : Int) ≤ (rs.length : Int) := by omega
        have i6 : (rs.length : Int) < ((rs.length + 1 : Nat) : Int) := by omega
        have i7 : (rs.length : Int) < (rs.length : Int) + 1 := by omega
        clear hrr hrW hbW hz hzz p5 p6 c1 c2 c3 c4 c5 c6
        go_wp2_with fail
        clear c0
        go_region_held3 (fun w' => w'.cell? ⟨rg, rs.length * 2, none⟩ = some (.bool nz) ∧ w'.cell? ⟨rg, rs.length * 2 + 1, none⟩ = some (.slice Sz lz cz) ∧ w'.cell? ⟨x, 0, none⟩ = some (.bool dv.nb) ∧ w'.cell? ⟨x, 1, none⟩ = some (.slice dv.ad dv.l dv.c) ∧ w'.cell? ⟨y, 2, none⟩ = some (.bool v.nb) ∧ w'.cell? ⟨y, 3, none⟩ = some (.slice v.ad v.l v.c) ∧ w'.cell? ⟨x + 1, 0, none⟩ = some (.bool dv8.nb) ∧ w'.cell? ⟨x + 1, 1, none⟩ = some (.slice dv8.ad dv8.l dv8.c)) (first | with_reducible exact KS0.out | with_reducible exact KSa.out | with_reducible exact KSb.out | with_reducible exact KSn.out | with_reducible exact KSn2.out | with_reducible exact KSz.out | go_keep) (first | (go_at_call 77; (with_reducible refine (Mul_any _ _ z (matD rs) _ (HZ.out.below (by first | with_reducible exact Below.refl _ _ | with_reducible exact (Below.refl _ _).drew | with_reducible exact HWb.out | with_reducible exact HWb.out.drew)) (HDv.out.below (by first | with_reducible exact Below.refl _ _ | with_reducible exact (Below.refl _ _).drew | with_reducible exact HWb.out | with_reducible exact HWb.out.drew)) (by omega) (by omega)).mono ?_); rintro e wa ⟨va, rfl, hv, hb⟩; have hw : Below wr.heap.size wr wa := Below.trans (by first | with_reducible exact Below.refl _ _ | with_reducible exact (Below.refl _ _).drew | with_reducible exact HWb.out | with_reducible exact HWb.out.drew) (hb.mono (by first | exact Nat.le_refl _ | exact HWb.out.size)); have HWa := Lib.hid hw; have HVa := Lib.hid hv; (first | (have HVb' := Lib.hid (HVb.out.below hb)) | (have HVb' := Lib.hid (HVb.out.drew.below hb)) | skip); have KSa := Lib.hid (KB.out wa (HBV.out.trans (hw.mono HBV.out.size))); obtain ⟨xa, Xa, ya, za, rfl⟩ := hv.slice; clear hv hb hw) | (go_at_call 77; (with_reducible refine (Mul_any _ _ s.v (matD (colT ss)) _ (HVv.out.below (by first | with_reducible exact Below.refl _ _ | with_reducible exact (Below.refl _ _).drew | with_reducible exact HWa.out | with_reducible exact HWa.out.drew)) (HD8v.out.below (by first | with_reducible exact Below.refl _ _ | with_reducible exact (Below.refl _ _).drew | with_reducible exact HWa.out | with_reducible exact HWa.out.drew)) (by omega) (by omega)).mono ?_); rintro e wb ⟨vb, rfl, hv, hb⟩; have hw : Below wr.heap.size wr wb := Below.trans (by first | with_reducible exact Below.refl _ _ | with_reducible exact (Below.refl _ _).drew | with_reducible exact HWa.out | with_reducible exact HWa.out.drew) (hb.mono (by first | exact Nat.le_refl _ | exact HWa.out.size)); have HWb := Lib.hid hw; have HVb := Lib.hid hv; (first | (have HVa' := Lib.hid (HVa.out.below hb)) | (have HVa' := Lib.hid (HVa.out.drew.below hb)) | skip); have KSb := Lib.hid (KB.out wb (HBV.out.trans (hw.mono HBV.out.size))); obtain ⟨xb, Xb, yb, zb, rfl⟩ := hv.slice; clear hv hb hw) | (go_at_call 79; (with_reducible refine (New_num _ _ (z * matD rs) (s.v * matD (colT ss)) _ (by first | with_reducible exact HVa.out | with_reducible exact HVa'.out | with_reducible exact HVa.out.drew | with_reducible exact HVa'.out.drew) (by first | with_reducible exact HVb.out | with_reducible exact HVb'.out | with_reducible exact HVb.out.drew | with_reducible exact HVb'.out.drew) (by omega) (by omega) hdz).mono ?_); rintro e wn ⟨vn', rfl, hv, hb⟩; have hw : Below wr.heap.size wr wn := Below.trans (by first | with_reducible exact Below.refl _ _ | with_reducible exact (Below.refl _ _).drew | with_reducible exact HWa.out | with_reducible exact HWa.out.drew | with_reducible exact HWb.out | with_reducible exact HWb.out.drew) (hb.mono (by first | exact Nat.le_refl _ | exact HWa.out.size | exact HWb.out.size)); have HWn := Lib.hid hw; have HVn := Lib.hid hv; obtain ⟨nax, nbx, Ax, Bx, lx, cx, mx, dx, rfl⟩ := hv.slice; have KSn := Lib.hid (KB.out wn (HBV.out.trans (hw.mono HBV.out.size))); have HWm := Lib.hid (hw.alloc hw.size (.cells #[.bool nax, .slice Ax lx cx, .bool nbx, .slice Bx mx dx] 93)); have KSn2 := Lib.hid (KB.out _ (HBV.out.trans (HWm.out.mono HBV.out.size))); have HVm := Lib.hid (hv.below ((Below.refl _ _).alloc (Nat.le_refl _) (.cells #[.bool nax, .slice Ax lx cx, .bool nbx, .slice Bx mx dx] 93))); have HOM := Lib.hid (own_belowF HOW.out HWm.out); have HNM := Lib.hid (HNO.out.below (fun k hk => (HOW.out.lt k hk).2) HWm.out); have HFM := Lib.hid (HFR.out.below HWm.out); have HSM := Lib.hid (Nat.le_trans HBV.out.size HWm.out.size); clear hv hb hw) | (refine step_append_clean _ (by rfl) _ _ _ (by rfl) W.heap.size 93 f0 _ 4 64 Tryz.underlying111 hf0 hfz0 hfz1 hfz2 rfl (by decide) (.slice Ao k co) k (frc us) (by go_simp) HOM.out ⟨wn.heap.size, 0, none⟩ 1 1 (FrV.four ⟨nax, Ax, lx, cx, nbx, Bx, mx, dx⟩) (by go_simp) rfl (World.news_of_block (cs := #[.bool nax, .slice Ax lx cx, .bool nbx, .slice Bx mx dx]) (t := 93) (fr := (0, 0)) (heap_alloc_new wn _)) four_one (by omega) (by unfold maxLen; omega) (by omega) HSM.out HNM.out fz_no four_no ?_; intro g2 cap2 w12 hown hgrow hno; have HOZ := Lib.hid hown; have HNZ := Lib.hid hno; have HFZ := Lib.hid ((HFM.out.clean HNM.out hgrow).push (u := ⟨nax, Ax, lx, cx, nbx, Bx, mx, dx⟩) (q := Rat.divInt (z * matD rs) (s.v * matD (colT ss))) (HVm.out.clean HNM.out hgrow)); have HBZ := Lib.hid ((HBV.out.trans (HWm.out.mono HBV.out.size)).grown hgrow HSM.out (fun k hk => (HOM.out.lt k hk).1)); have KSz := Lib.hid (KB.out w12 HBZ.out); clear hown hgrow hno))
        all_goals
         go_wp2_with fail
         go_roundw
         case rel => exact ⟨k + 1, us ++ [⟨nax, Ax, lx, cx, nbx, Bx, mx, dx⟩], by go_num, by omega, by simp [HUS.out], by rw [frc_snoc]; exact HOZ.out, HNZ.out, by rw [List.range_succ, List.map_append]; show IsFracs _ _ (_ ++ [solQ rs ss s k]); rw [← HKQ.out]; exact HFZ.out, HBZ.out⟩
         case measure => simp [intOf]; omega
       ·obtain rfl : k = rs.length := by omega
        have HTX := Texts_any Ao us ((List.range rs.length).map (solQ rs ss s)) co wr (fun j hj => by
         have hl9 : 0 < rs.length := by omega
         have h9 := HOW.out
         obtain ⟨g, rfl⟩ := ownAddr h9 hl9
         have hj' : j < rs.length := by have := HUS.out; omega
         exact ⟨g, 0, rfl, (h9.lt g rfl).2, by rw [Nat.zero_add]; exact (h9.cellAt (j * 4) (by omega)).trans (frc_get hj).1, by rw [Nat.zero_add]; exact (h9.cellAt (j * 4 + 1) (by omega)).trans (frc_get hj).2.1, by rw [Nat.zero_add]; exact (h9.cellAt (j * 4 + 2) (by omega)).trans (frc_get hj).2.2.1, by rw [Nat.zero_add]; exact (h9.cellAt (j * 4 + 3) (by omega)).trans (frc_get hj).2.2.2⟩)
         HFR.out (by have := HUS.out; omega) (fun q hq => by
          obtain ⟨j, hj, rfl⟩ := List.mem_map.1 hq
          have hj' : j < rs.length := by simpa using hj
          have h1 := HEL.out.1 j rs.length hj'
          have h2 := HEL.out.2.1
          have hg1 : grw 70 pl ≤ 300000 := grw_le (Nat.le_refl _) (by have := HEL.out.2.2; omega)
          have h3 := LL_mul (s.P j rs.length) (matD rs)
          have h4 := LL_mul s.v (matD (colT ss))
          have h5 := matD_LL HF.out
          have h6 := matD_LL (fine_col (colT_map ss) hsl12 hsl1 HV.out)
          unfold LL at h1 h2 h3 h4 h5 h6
          exact Sz.divInt (Int.mul_ne_zero hv0 (by have := matD_pos (colT ss); omega)) (by omega) (by omega)) (HE.out.below (HB10.out.trans (hbW.mono HB10.out.size)))
        rw [HUS.out] at HTX
        replace HTX := Lib.hid HTX
        have HBF := Lib.hid (HB10.out.trans (hbW.mono HB10.out.size))
        have HKF := Lib.hid (fun e w' (h : RetTexts w ((List.range rs.length).map (solQ rs ss s)) e w') => (show SolPost false s rs.length (solQ rs ss s) w e w' from .inr ⟨by rw [HPL.out]; exact HPE.out, h⟩))
        have HLQ := Lib.hid (show ((List.range rs.length).map (solQ rs ss s)).length = rs.length by simp)
        clear hbW
        go_wp2_with fail
        refine HTX.out.mono ?_
        generalize (List.range rs.length).map (solQ rs ss s) = ql at *
        rintro e w11 (⟨At, ct, hfit, rfl, hst, hb11⟩ | ⟨hno, rfl, hb11⟩)
        ·have HB11 := Lib.hid (HBF.out.trans (hb11.mono HBF.out.size))
         have HST := Lib.hid hst
         have HFIT := Lib.hid hfit
         clear hb11 hst hfit
         go_wp2_with fail
         rw [← hQ.out]
         exact HKF.out _ _ (.inl ⟨At, ct, HFIT.out, rfl, HST.out, HB11.out⟩)
        ·have HB11 := Lib.hid (HBF.out.trans (hb11.mono HBF.out.size))
         have HNO2 := Lib.hid hno
         clear hb11 hno
         go_wp2_with fail
         rw [← hQ.out]
         exact HKF.out _ _ (.inr ⟨HNO2.out, rfl, HB11.out⟩)
end Go.Proofs.YtajlojhklhlljaaGreatDoor
