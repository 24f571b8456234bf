/-
  Package limbs: Read.
-/
import Derived.Test.YtnjccldjlpkgkaaGreatDoorShelf
import Derived.Test.YtnjccldjlpkgkaaGreatDoorZB
import Derived.Test.YtnjccldjlpkgkaaGreatDoorZA
import Derived.Test.YtnjccldjlpkgkaaGreatDoorZC
import Derived.Lib.Repeat
namespace Go.Proofs.YtnjccldjlpkgkaaGreatDoor
open Go.RowKit Go.Sort

theorem infoByte : (Tryz.prog.info? 5).map (fun i => (i.zero, i.size, i.bytes)) = some (some (.int .u8 0), 1, 1) := by kernel_rfl

/-- The library's table of powers of ten is there. -/
def Tab (w : World) : Prop := Lib.TabIs Tryz.prog w "internal/strconv.uint64pow10" .u64 Lib.pow10Tab
theorem Tab.below {w w' : World} (h : Tab w) (hb : Below w.heap.size w w') : Tab w' := by
  unfold Tab Lib.TabIs World.var? at *
  cases hg : Tryz.prog.globalNamed "internal/strconv.uint64pow10" with
  | none => simp [hg] at h
  | some g =>
    simp only [hg, Option.bind_some] at h ⊢
    have hlt : g < w.heap.size := by
      rcases Nat.lt_or_ge g w.heap.size with h' | h'
      · exact h'
      · rw [Array.getElem?_eq_none h'] at h; simp at h
    rw [hb.block g hlt]
    exact h
theorem Tab.drewN {w : World} (h : Tab w) (n : Nat) : Tab (w.drewN n) := h
theorem below_grow (w : World) (k : Nat) (os : Array Obj) : Below w.heap.size w (Go.Sort.grow (w.drewN k) os) :=
  ⟨rfl, rfl, rfl, by simp [Go.Sort.grow], fun i hi => by simp [Go.Sort.grow, Array.getElem?_append, hi]⟩

theorem holds_zero0 (w : World) (T : TypeId) (nd : Nat) (hs : nd ≤ 24) : Holds (fun (b : UInt8) => Value.int .u8 (b.toNat : Int)) (w.alloc (.cells Lib.zeros24 T)) w.heap.size 0 (Array.replicate nd (0 : UInt8)) := fun j hj => by
  have hj' : j < nd := by simpa using hj
  refine ⟨?_, World.frozen?_alloc_new _ _ _ _⟩
  rw [World.cell?_alloc_new, Lib.zeros24_at _ (by omega), getElem!_pos _ j hj]
  simp
theorem fin_pos0 (w : World) (o : Obj) (dk : Array UInt8) (k : Nat) : ∃ os, (putRow (fun (b : UInt8) => Value.int .u8 (b.toNat : Int)) (w.alloc o) w.heap.size 0 dk).drewN k = Go.Sort.grow (w.drewN k) os := by
  rw [alloc_eq_grow]
  obtain ⟨os', _, e⟩ := putRow_grow_new (fun (b : UInt8) => Value.int .u8 (b.toNat : Int)) w #[o] w.heap.size 0 dk (Nat.le_refl _)
  exact ⟨os', by rw [e]; rfl⟩

end Go.Proofs.YtnjccldjlpkgkaaGreatDoor

namespace Go.Proofs.YtnjccldjlpkgkaaGreatDoor
open Go.RowKit

theorem val_drop_pos {n k : Nat} (hk : k < (limbs n).length) : 0 < val ((limbs n).drop k) := by
  obtain ⟨m, hm⟩ : ∃ m, (limbs n).length = m + 1 := ⟨(limbs n).length - 1, by omega⟩
  have h1 := nth_last_pos hm
  have h2 : nth ((limbs n).drop k) (m - k) = nth (limbs n) m := by
    unfold nth
    rw [List.getD_eq_getElem?_getD, List.getD_eq_getElem?_getD, List.getElem?_drop, show k + (m - k) = m by omega]
  have h3 := val_split ((limbs n).drop k) (m - k)
  rw [List.length_drop, Nat.min_eq_left (by omega), val_drop ((limbs n).drop k) (m - k), h2] at h3
  have h4 : 1000000000 ^ (m - k) * 1 ≤ 1000000000 ^ (m - k) * (nth (limbs n) m + 1000000000 * val (((limbs n).drop k).drop (m - k + 1))) := Nat.mul_le_mul_left _ (by omega)
  have h5 := pow_pos' (m - k)
  omega
theorem decDigits_step {n k : Nat} (hk : k + 1 < (limbs n).length) : Lib.decDigits (val ((limbs n).drop k)) = Lib.decDigits (val ((limbs n).drop (k + 1))) ++ pad9 (nth (limbs n) k) := by
  rw [val_drop (limbs n) k, ← decDigits_join (val_drop_pos hk) ((Low.limbs n).nth k)]
  congr 1
  omega
theorem decDigits_len (n k : Nat) (hk : k < (limbs n).length) : (Lib.decDigits (val ((limbs n).drop k))).length = 9 * ((limbs n).length - 1 - k) + (Lib.decDigits (nth (limbs n) ((limbs n).length - 1))).length := by
  generalize hd : (limbs n).length - 1 - k = d
  induction d generalizing k with
  | zero =>
    obtain rfl : k = (limbs n).length - 1 := by omega
    rw [val_drop, List.drop_eq_nil_of_le (by omega), val_nil]
    simp
  | succ d ih =>
    rw [decDigits_step (by omega), List.length_append, ih (k + 1) (by omega) (by omega), pad9_length ((Low.limbs n).nth k)]
    omega

end Go.Proofs.YtnjccldjlpkgkaaGreatDoor

namespace Go.Proofs.YtnjccldjlpkgkaaGreatDoor
open Go.RowKit

/-- What has been written when the limbs from k on are done. -/
def strD (n k : Nat) : List UInt8 := if k = (limbs n).length then [] else Lib.decDigits (val ((limbs n).drop k))
theorem strD_first {n m : Nat} (h : (limbs n).length = m + 1) : strD n m = Lib.decDigits (nth (limbs n) m) := by
  rw [strD, if_neg (by omega), val_drop, List.drop_eq_nil_of_le (by omega), val_nil]; rfl
theorem strD_next {n k : Nat} (h : k + 1 < (limbs n).length) : strD n k = strD n (k + 1) ++ (List.replicate (9 - (Lib.decDigits (nth (limbs n) k)).length) 48 ++ Lib.decDigits (nth (limbs n) k)) := by
  rw [strD, strD, if_neg (by omega), if_neg (by omega), decDigits_step h]; rfl
theorem strD_length (n k : Nat) (hk : k ≤ (limbs n).length) : (strD n k).length ≤ 9 * (limbs n).length := by
  unfold strD
  by_cases h : k = (limbs n).length
  · rw [if_pos h]; simp
  · rw [if_neg h, decDigits_len n k (by omega)]
    have := decDigits_length_le (r := nth (limbs n) ((limbs n).length - 1)) (k := 9) (by omega) (by simpa using (Low.limbs n).nth _)
    omega
theorem repeat_zero (c : Nat) : Lib.repeatL [48] c = List.replicate c 48 := by
  induction c with
  | zero => rfl
  | succ c ih => rw [Lib.repeatL, ih, List.replicate_succ]; rfl
/-- The bytes of a sign. -/
def sgB (b : Bool) : List UInt8 := if b then [45] else []
theorem itoa_parts (x : Int) (h : x ≠ 0) : Lib.itoa x = sgB (decide (x < 0)) ++ strD x.natAbs 0 := by
  have h1 : 0 ≠ (limbs x.natAbs).length := by have := limbs_length_pos.2 (show x.natAbs ≠ 0 by omega); omega
  rw [strD, if_neg h1, List.drop_zero, val_limbs]
  unfold Lib.itoa sgB
  by_cases hx : x < 0
  · simp [hx]
  · simp [hx]; congr 1; omega

end Go.Proofs.YtnjccldjlpkgkaaGreatDoor

namespace Go.Proofs.YtnjccldjlpkgkaaGreatDoor
open Go.RowKit

theorem hasPrefix_minus (l : List UInt8) (h : Digs l) : Lib.hasPrefix l [45] = false := by
  cases l with
  | nil => rfl
  | cons c l =>
    have := h.head
    unfold IsDig at this
    simp only [Lib.hasPrefix, List.isPrefixOf_cons_cons, List.isPrefixOf_nil_left, Bool.and_true, beq_eq_false_iff_ne]
    intro e
    have := congrArg UInt8.toNat e
    simp at this
    omega
theorem itoa_prefix (x : Int) : Lib.hasPrefix (Lib.itoa x) [45] = decide (x < 0) ∧ Lib.trimPrefix (Lib.itoa x) [45] = Lib.decDigits x.natAbs := by
  unfold Lib.itoa
  by_cases hx : x < 0
  · rw [if_pos hx]
    simp [Lib.hasPrefix, Lib.trimPrefix, hx]
  · rw [if_neg hx]
    have h1 := hasPrefix_minus _ (decDigits_digs x.toNat)
    refine ⟨by rw [h1]; simp [hx], ?_⟩
    rw [Lib.trimPrefix, h1]
    simp
    congr 1
    omega
/-- What a row of one's own is good for. -/
theorem own_cells {w : World} {B e : Nat} {v : Value} {xs : List Nat} (h : w.ownsRow B e 1 v xs.length (xs.map fun x : Nat => Value.int .u64 (x : Int))) : ∃ A c, v = .slice A xs.length c ∧ xs.length ≤ c ∧ Cells .u64 w A xs := by
  rcases h.2 with ⟨hv, h0⟩ | ⟨g, cap, cur, hv, hB, hg, hle, hm, hs, htake⟩
  · have : xs = [] := by simpa using h0
    subst this
    exact ⟨none, 0, hv, by simp, Cells.nil _ _ _⟩
  · refine ⟨_, cap, hv, hle, fun _ => ⟨g, 0, rfl, ?_, fun i hi => ?_⟩⟩
    · rcases Nat.lt_or_ge g w.heap.size with h' | h'
      · exact h'
      · rw [Array.getElem?_eq_none h'] at hg; cases hg
    · subst hv
      have := h.cellAt i (by omega)
      rw [Nat.zero_add, this, nth_lt hi]
      simp [hi]

set_option maxRecDepth 100000 in
set_option maxHeartbeats 4000000 in
theorem Read_any (x : Int) (w : World) (hl : (Lib.decDigits x.natAbs).length ≤ 10000000) :
    Calls Tryz.prog 71 #[.string ⟨(Lib.itoa x).toArray⟩] w (RetNum w x) := by
  have HP := Lib.hid (Tryz.strings_CutPrefix ⟨(Lib.itoa x).toArray⟩ ⟨#[45]⟩)
  have hpe := itoa_prefix x
  have e1 : (⟨(Lib.itoa x).toArray⟩ : ByteArray).data.toList = Lib.itoa x := by simp
  have e2 : (⟨#[45]⟩ : ByteArray).data.toList = [45] := rfl
  rw [e1, e2, hpe.1, hpe.2] at HP
  clear e1 e2 hpe
  have HSG := Lib.hid (sgn_self x)
  generalize decide (x < 0) = na at *
  generalize hnn : x.natAbs = n at *
  clear hnn
  have hdp := Lib.nDigits_pos n
  rw [← Lib.decDigits_length] at hdp
  obtain ⟨i0, hi, hz0, hz1, hz2⟩ := info_parts Tryz.infoU64
  go_enter Tryz.func71, Tryz.ntmps71
  go_wp2_with fail
  refine (HP.out _).mono ?_
  rintro e w1 ⟨rfl, rfl⟩
  clear HP
  go_wp2_with fail
  have hr := Res.new w
  have hb0 : Below w.heap.size w (w.alloc (.cells #[.bool false, .slice none 0 0] 98)) := (Below.refl _ _).alloc (Nat.le_refl _) _
  have hs0 : (w.alloc (.cells #[.bool false, .slice none 0 0] 98)).heap.size = w.heap.size + 1 := by simp
  generalize w.alloc (.cells #[.bool false, .slice none 0 0] 98) = W0 at *
  have HR := Lib.hid hr
  have HB0 := Lib.hid hb0
  have HS0 := Lib.hid hs0
  clear hr hb0 hs0
  go_loopw [5, 6] (fun v ix wr => ∃ k : Nat, ix = .int .i64 (((Lib.decDigits n).length : Int) - 9 * (k : Int)) ∧ 9 * k < (Lib.decDigits n).length + 9 ∧ wr.ownsRow (w.heap.size + 1) 117 1 v (limbsTo n k).length ((limbsTo n k).map fun x : Nat => Value.int .u64 (x : Int)) ∧ Below (w.heap.size + 1) W0 wr) (fun _ ix _ => (intOf ix).toNat)
  case atStart => exact ⟨0, by simp, by omega, World.ownsRow_nil _ _ _ _, Below.refl _ _⟩
  case round =>
    obtain ⟨k, rfl, hk, hown, hbr⟩ := hrel
    have HOWN := Lib.hid hown
    have HBR := Lib.hid hbr
    have hsr : w.heap.size + 1 ≤ wr.heap.size := by have := hbr.size; have := HS0.out; omega
    clear hown hbr
    by_cases hlt : 9 * k < (Lib.decDigits n).length
    · have hcv := chunk_val n k hlt
      have hcl : (((Lib.decDigits n).take ((Lib.decDigits n).length - 9 * k)).drop ((Lib.decDigits n).length - 9 * k - 9)).length = (Lib.decDigits n).length - 9 * k - ((Lib.decDigits n).length - 9 * k - 9) := by rw [List.length_drop, List.length_take]; omega
      have hpu := parseUintB_ok (((decDigits_digs n).take ((Lib.decDigits n).length - 9 * k)).drop ((Lib.decDigits n).length - 9 * k - 9)) (by intro e; rw [e] at hcl; simp at hcl; omega) (by omega)
      rw [hcv] at hpu
      have hex : (((⟨(Lib.decDigits n).toArray⟩ : ByteArray).extract (max 0 (((Lib.decDigits n).length : Int) - 9 * (k : Int) - 9)).toNat ((Lib.decDigits n).length - 9 * k)).data.toList) = (((Lib.decDigits n).take ((Lib.decDigits n).length - 9 * k)).drop ((Lib.decDigits n).length - 9 * k - 9)) := by
        rw [show (max 0 (((Lib.decDigits n).length : Int) - 9 * (k : Int) - 9)).toNat = (Lib.decDigits n).length - 9 * k - 9 by omega, Lib.extract_data, List.drop_take]
      have HPU := Lib.hid (Tryz.strconv_ParseUint_10_at64_ok ((⟨(Lib.decDigits n).toArray⟩ : ByteArray).extract (max 0 (((Lib.decDigits n).length : Int) - 9 * (k : Int) - 9)).toNat ((Lib.decDigits n).length - 9 * k)) (by
        show (ByteArray.extract _ _ _).data.size ≤ _
        have := congrArg List.length hex
        rw [Array.length_toList] at this
        rw [this, hcl]; omega) (n / 1000000000 ^ k % 1000000000) (by rw [hex]; exact hpu) wr)
      clear hcv hcl hpu hex
      go_wp2_with fail
      refine HPU.out.mono ?_
      rintro e w2 ⟨rfl, hw2⟩
      have hb2 : Below wr.heap.size wr w2 := by
        rcases hw2 with h | h
        · rw [h]; exact Below.refl _ _
        · rw [h]; exact Lib.bytesWorld_below _ _ _
      have hs2 := hb2.size
      have hown2 : w2.ownsRow (w.heap.size + 1) 117 1 u5 (limbsTo n k).length ((limbsTo n k).map fun x : Nat => Value.int .u64 (x : Int)) := HOWN.out.kept (row := none) ⟨hb2.os, hb2.tape, hb2.output, hb2.size, fun k hk _ => hb2.block k hk⟩ (by
        rcases hv : u5.ownBlock with _ | g
        · exact .inl rfl
        · exact .inr (by simp))
      have HOWN2 := Lib.hid hown2
      have HB2 := Lib.hid (HBR.out.trans (hb2.mono hsr))
      have hll := limbsTo_length n k
      have HLL := Lib.hid hll
      clear hw2 hb2 hown2 HOWN HPU
      have hkl : (limbsTo n k).length ≤ 10000000 := by omega
      clear hll
      have hm := Nat.mod_lt (n / 1000000000 ^ k) (show 0 < 1000000000 by omega)
      have ES := Lib.hid (limbsTo_succ n k)
      generalize n / 1000000000 ^ k % 1000000000 = lb at *
      go_wp2_with (at_builtin; refine wpList_append_own _ rfl _ _ 96 rfl (w.heap.size + 1) 117 i0 (.int .u64 0) 1 8 Tryz.underlying96 hi hz0 hz1 hz2 rfl (by decide) _ _ _ rfl (HOWN2.out.alloc _) ⟨w2.heap.size, 0, none⟩ 1 1 [.int .u64 lb] rfl rfl ?c1 ?c2 ?c3 ?c4 ?c5 ?_)
      case c1 =>
        intro j u hj
        match j, hj with
        | 0, hj => simp at hj; subst hj; simp [Addr.add]
      case c2 => intro u hu; simp at hu; subst hu; rfl
      case c3 => unfold maxLen; omega
      case c4 => omega
      case c5 => simp; omega
      intro v' w3 hown3 hgrow3 _
      have hb3 : Below (w.heap.size + 1) W0 w3 := (HB2.out.alloc (by omega) _).grown hgrow3 (by simp; omega) (fun g hg => ((HOWN2.out.lt g hg).1))
      have HOWN3 : Hid (w3.ownsRow (w.heap.size + 1) 117 1 v' (limbsTo n (k + 1)).length ((limbsTo n (k + 1)).map fun x : Nat => Value.int .u64 (x : Int))) := by
        rw [ES.out]
        refine Lib.hid ?_
        simpa using hown3
      have HB3 := Lib.hid hb3
      clear hown3 hgrow3 hb3
      go_wp2_with fail
      go_roundw
      case rel => exact ⟨k + 1, by go_num, by omega, HOWN3.out, HB3.out⟩
      case measure => simp [intOf]; omega
    · obtain ⟨A, c, rfl, hlc, hcl⟩ := own_cells HOWN.out
      have hll := limbsTo_length n k
      have HTR := Lib.hid (trim_any A (limbsTo n k) c wr hcl (by omega) hlc)
      rw [limbsTo_trim (lt_pow_of_digits (by omega))] at HTR
      have HCT := Lib.hid (hcl.take (trimL (limbsTo n k)).length)
      rw [← trimL_take, limbsTo_trim (lt_pow_of_digits (by omega))] at HCT
      have hnl : (limbs n).length ≤ c := by
        have h1 := trimL_length_le (limbsTo n k)
        rw [limbsTo_trim (lt_pow_of_digits (by omega))] at h1
        omega
      have hnk : (limbs n).length ≤ 10000000 := by
        have h1 := trimL_length_le (limbsTo n k)
        rw [limbsTo_trim (lt_pow_of_digits (by omega))] at h1
        omega
      have HLL := Lib.hid hll
      clear hcl hll HOWN hi hz0 hz1 hz2
      go_wp2_with fail
      refine HTR.out.mono ?_
      rintro e w' ⟨rfl, rfl⟩
      clear HTR
      go_wp2_with fail
      refine (number_num na _ n _ (IsNat.mk hnl HCT.out) (by omega)).mono ?_
      intro e w3 hret
      obtain ⟨A3, c3, rfl, hl3, hc3, hb3⟩ := hret.num
      have hrw : Below W0.heap.size W0 wr := by rw [HS0.out]; exact HBR.out
      have HR3 := Lib.hid ((HR.out.below hrw).below hb3)
      have HC3 := Lib.hid hc3
      have HB3 := Lib.hid ((HB0.out.trans (hrw.mono HB0.out.size)).trans (hb3.mono (by omega)))
      have hr0 := HR3.out.r0
      have hr1 := HR3.out.r1
      have hf0 := HR3.out.f 0
      have hf1 := HR3.out.f 1
      clear hret hc3 hb3 hrw
      go_wp2_with fail
      refine bodyPost_ret (v := .agg #[.bool (decide (sgn na n < 0)), .slice A3 (limbs (sgn na n).natAbs).length c3]) (by simp [results, Tryz.results71, go_sem, hr0, hr1]) rfl ?_
      exact HR3.out.end_ HB3.out (Nat.le_refl _) HC3.out hl3 HSG.out

end Go.Proofs.YtnjccldjlpkgkaaGreatDoor
