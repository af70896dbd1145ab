/- For every list of needs and every node WhyTells returns true, as the card says: how far nodes are away, and the chain to a node, are as the document says, or the error is. Condition: when the call begins, utf8.acceptRanges and utf8.first hold what Go's own text lays. (part 5 of its proof) -/
import Derived.Deep.LoopGhost
import Derived.Laws.StructEq
import Derived.Lib.Bytealg
import Derived.Lib.Hide
import Derived.Lib.IndexBytes
import Derived.Lib.Strings
import Derived.Lib.Walk
import Derived.Maps.RangeRun
import Derived.Test.YtjfcmkddeglghaaGreatDoorKa1
import Derived.Test.YtjfcmkddeglghaaGreatDoorKa2
import Derived.Test.YtjfcmkddeglghaaGreatDoorKa3
import Derived.Test.YtjfcmkddeglghaaGreatDoorKa4
section
namespace Go.Proofs.YtjfcmkddeglghaaGreatDoor.G
open Go.RowKit Go.Proofs.YtjfcmkddeglghaaGreatDoorW.PrintWords Go.Proofs.YtjfcmkddeglghaaGreatDoorW.PrintLast Go.Proofs.YtjfcmkddeglghaaGreatDoorW.PrintMore
attribute [local go_sem] max2_int min2_int max_two min_two max_three min_three max_four min_four
set_option linter.unusedVariables false
set_option linter.unusedSimpArgs false
mutual
def version_Split.j0 : Nat → ByteArray → Bool → List ByteArray → Bool → Option (ByteArray × ByteArray × ByteArray × List ByteArray × Int)
 | 0, _, _, _, _ => none
 | k + 1, x5, x6, x7, x47 => if x47 = true then (some ((⟨#[]⟩ : ByteArray), (⟨#[]⟩ : ByteArray), (⟨#[]⟩ : ByteArray), ([] : List ByteArray), 1)) else (if 0 < (x7.length : Int) then (if 1 < (x7.length : Int) then (if 2 < (x7.length : Int) then (if x6 = true then ((octet_Parts.f x5 46).bind fun t155 => (version_Split.l0 k t155 (t155.length : Int) 0 (rdOf ByteArray.empty x7 0) (rdOf ByteArray.empty x7 1) (rdOf ByteArray.empty x7 2) t155)) else (some (rdOf ByteArray.empty x7 0, rdOf ByteArray.empty x7 1, rdOf ByteArray.empty x7 2, ([] : List ByteArray), 0))) else (none)) else (none)) else (none))
def version_Split.l0 : Nat → List ByteArray → Int → Int → ByteArray → ByteArray → ByteArray → List ByteArray → Option (ByteArray × ByteArray × ByteArray × List ByteArray × Int)
 | 0, _, _, _, _, _, _, _ => none
 | k + 1, x66, x67, x68, x155000, x155001, x155002, x155003 => if x68 < x67 then (if 0 ≤ x68 then (if x68 < (x66.length : Int) then ((version_word.f k (rdOf ByteArray.empty x66 x68)).bind fun t159 => (if t159 = true then (version_Split.l0 k x66 x67 (wrap64 (x68 + 1)) x155000 x155001 x155002 x155003) else (some ((⟨#[]⟩ : ByteArray), (⟨#[]⟩ : ByteArray), (⟨#[]⟩ : ByteArray), ([] : List ByteArray), 1)))) else (none)) else (none)) else (some (x155000, x155001, x155002, x155003, 0))
end
def version_Split.f (k : Nat) (a0 : ByteArray) : Option (ByteArray × ByteArray × ByteArray × List ByteArray × Int) := (strings_HasPrefix.f a0 (⟨#[118]⟩ : ByteArray)).bind fun t138 => (if t138 = true then (if 1 ≤ (a0.size : Int) then ((strings_Cut.f (a0.extract 1 a0.size) (⟨#[45]⟩ : ByteArray)).bind fun bt139 => ((octet_Parts.f bt139.1 46).bind fun t142 => (if (t142.length : Int) = 3 then (if 0 < (t142.length : Int) then ((number_May.f (rdOf ByteArray.empty t142 0)).bind fun t146 => (if t146 = true then (if 1 < (t142.length : Int) then ((number_May.f (rdOf ByteArray.empty t142 1)).bind fun t148 => (if t148 = true then (if 2 < (t142.length : Int) then ((number_May.f (rdOf ByteArray.empty t142 2)).bind fun t150 => (version_Split.j0 k bt139.2.1 bt139.2.2 t142 (!t150))) else (none)) else (version_Split.j0 k bt139.2.1 bt139.2.2 t142 true))) else (none)) else (version_Split.j0 k bt139.2.1 bt139.2.2 t142 true))) else (none)) else (version_Split.j0 k bt139.2.1 bt139.2.2 t142 true)))) else (none)) else (some ((⟨#[]⟩ : ByteArray), (⟨#[]⟩ : ByteArray), (⟨#[]⟩ : ByteArray), ([] : List ByteArray), 1)))
theorem version_Split.mono_l : ∀ k, (∀ y0 y1 y2 y3, LeO (version_Split.j0 k y0 y1 y2 y3) (version_Split.j0 (k + 1) y0 y1 y2 y3)) ∧ (∀ y0 y1 y2 y3 y4 y5 y6, LeO (version_Split.l0 k y0 y1 y2 y3 y4 y5 y6) (version_Split.l0 (k + 1) y0 y1 y2 y3 y4 y5 y6))
 | 0 => ⟨fun _ _ _ _ r h => by simp [version_Split.j0] at h, fun _ _ _ _ _ _ _ r h => by simp [version_Split.l0] at h⟩
 | k + 1 => by
  obtain ⟨ih0, ih1⟩ := version_Split.mono_l k
  refine ⟨?_, ?_⟩
  ·intro y0 y1 y2 y3
   unfold version_Split.j0
   repeat' first
   | (with_reducible exact ih0 _ _ _ _)
   | (with_reducible exact ih1 _ _ _ _ _ _ _)
   | (with_reducible exact version_word.mono _ _)
   | (with_reducible exact LeO.refl _)
   | (with_reducible exact LeO.none _)
   | (with_reducible refine LeO.ite ?_ ?_)
   | (with_reducible refine LeO.bind ?_ (fun _ => ?_))
   | exact ih0 _ _ _ _
   | exact ih1 _ _ _ _ _ _ _
   | exact version_word.mono _ _
   | exact LeO.none _
   | refine LeO.ite ?_ ?_
   | refine LeO.bind ?_ (fun _ => ?_)
  ·intro y0 y1 y2 y3 y4 y5 y6
   unfold version_Split.l0
   repeat' first
   | (with_reducible exact ih0 _ _ _ _)
   | (with_reducible exact ih1 _ _ _ _ _ _ _)
   | (with_reducible exact version_word.mono _ _)
   | (with_reducible exact LeO.refl _)
   | (with_reducible exact LeO.none _)
   | (with_reducible refine LeO.ite ?_ ?_)
   | (with_reducible refine LeO.bind ?_ (fun _ => ?_))
   | exact ih0 _ _ _ _
   | exact ih1 _ _ _ _ _ _ _
   | exact version_word.mono _ _
   | exact LeO.none _
   | refine LeO.ite ?_ ?_
   | refine LeO.bind ?_ (fun _ => ?_)
theorem version_Split.mono : ∀ a0 k, LeO (version_Split.f k a0) (version_Split.f (k + 1) a0) := by
 intro a0 k
 obtain ⟨ih0, ih1⟩ := version_Split.mono_l k
 unfold version_Split.f
 repeat' first
   | (with_reducible exact ih0 _ _ _ _)
   | (with_reducible exact ih1 _ _ _ _ _ _ _)
   | (with_reducible exact version_word.mono _ _)
   | (with_reducible exact LeO.refl _)
   | (with_reducible exact LeO.none _)
   | (with_reducible refine LeO.ite ?_ ?_)
   | (with_reducible refine LeO.bind ?_ (fun _ => ?_))
   | exact ih0 _ _ _ _
   | exact ih1 _ _ _ _ _ _ _
   | exact version_word.mono _ _
   | exact LeO.none _
   | refine LeO.ite ?_ ?_
   | refine LeO.bind ?_ (fun _ => ?_)
def version_Split.T7 : Bool × List (List Nat × List Nat) := (true, [([], []), ([0], [0]), ([1], [1]), ([], []), ([3], [3]), ([4], [4]), ([], []), ([6], [6]), ([7], [7]), ([2, 5, 8], [2, 5, 8]), ([], []), ([10, 9, 0, 1, 2, 3, 4, 5, 6, 7, 8, 9, 10], [9, 10])])
def version_Split.B7 : List Nat := [0, 1, 3, 0, 8, 24, 0, 64, 192, 511, 0, 2047]
theorem version_Split.tab7 : rtab .any (opsOf Tryz.f150 7) = version_Split.T7 := by kernel_rfl
theorem version_Split.bits7 : waitsOk version_Split.T7.2 version_Split.B7 = true := by kernel_rfl
set_option maxHeartbeats 8000000 in
set_option maxRecDepth 100000 in
theorem version_Split.calls (k : Nat) (a0 : ByteArray) (r1 : ByteArray) (r2 : ByteArray) (r3 : ByteArray) (r4 : List ByteArray) (r5 : Int) (w : World) (h : version_Split.f k a0 = some (r1, r2, r3, r4, r5)) :
  Calls Tryz.prog 150 #[.string a0] w fun e w' => ∃ v3_ : Value, e = .returned (.tuple #[.agg #[.string r1, .string r2, .string r3, v3_], .int .i64 r5]) ∧ Kd.R Kd.string 9 w' w.heap.size (fun _ => True) v3_ r4 ∧ Below w.heap.size w w' := by
 have hu146 := Tryz.underlying146
 have HB := Aside0.mk (Below.refl w.heap.size w)
 have H : ((strings_HasPrefix.f a0 (⟨#[118]⟩ : ByteArray)).bind fun t138 => (if t138 = true then (if 1 ≤ (a0.size : Int) then ((strings_Cut.f (a0.extract 1 a0.size) (⟨#[45]⟩ : ByteArray)).bind fun bt139 => ((octet_Parts.f bt139.1 46).bind fun t142 => (if (t142.length : Int) = 3 then (if 0 < (t142.length : Int) then ((number_May.f (rdOf ByteArray.empty t142 0)).bind fun t146 => (if t146 = true then (if 1 < (t142.length : Int) then ((number_May.f (rdOf ByteArray.empty t142 1)).bind fun t148 => (if t148 = true then (if 2 < (t142.length : Int) then ((number_May.f (rdOf ByteArray.empty t142 2)).bind fun t150 => (version_Split.j0 k bt139.2.1 bt139.2.2 t142 (!t150))) else (none)) else (version_Split.j0 k bt139.2.1 bt139.2.2 t142 true))) else (none)) else (version_Split.j0 k bt139.2.1 bt139.2.2 t142 true))) else (none)) else (version_Split.j0 k bt139.2.1 bt139.2.2 t142 true)))) else (none)) else (some ((⟨#[]⟩ : ByteArray), (⟨#[]⟩ : ByteArray), (⟨#[]⟩ : ByteArray), ([] : List ByteArray), 1)))) = some (r1, r2, r3, r4, r5) := h
 clear h
 obtain ⟨t138, A2, H⟩ := bo H
 by_cases c3 : t138 = true
 ·subst c3
  replace H := it H
  by_cases c4 : 1 ≤ (a0.size : Int)
  ·rw [if_pos c4] at H
   have c4b0 := eq_true c4
   have c4b1 : decide (1 ≤ (a0.size : Int)) = true := decide_eq_true c4
   clear c4
   obtain ⟨⟨t139, t140, t141⟩, A5, H⟩ := bo H
   replace H : ((octet_Parts.f t139 46).bind fun t142 => (if (t142.length : Int) = 3 then (if 0 < (t142.length : Int) then ((number_May.f (rdOf ByteArray.empty t142 0)).bind fun t146 => (if t146 = true then (if 1 < (t142.length : Int) then ((number_May.f (rdOf ByteArray.empty t142 1)).bind fun t148 => (if t148 = true then (if 2 < (t142.length : Int) then ((number_May.f (rdOf ByteArray.empty t142 2)).bind fun t150 => (version_Split.j0 k t140 t141 t142 (!t150))) else (none)) else (version_Split.j0 k t140 t141 t142 true))) else (none)) else (version_Split.j0 k t140 t141 t142 true))) else (none)) else (version_Split.j0 k t140 t141 t142 true))) = some (r1, r2, r3, r4, r5) := H
   obtain ⟨t142, A6, H⟩ := bo H
   have HC7 := Aside0.mk H
   clear H
   go_enter Tryz.func150, Tryz.ntmps150
   go_upto_region 5 with (first | ((with_reducible refine gate_dst (N := 2) rfl ?_); refine box_event ?hg (N := 2) ?hd (cs := #[.string (⟨#[]⟩ : ByteArray), .string (⟨#[]⟩ : ByteArray), .string (⟨#[]⟩ : ByteArray), .slice none 0 0]) (t := 146) ?hr ?_; (case hd => rfl); (case hg => rfl); (case hr => first | (go_simp; done) | (go_simp; rfl)); intro gb137 hg w8 hbox hb; have n0_ := bs HB hb; have n1_ := Aside0.mk (hbox); have n2_ := gz hg HB; have n3_ := gz hg HB; revert n0_ n1_ n2_ n3_; clear HB; intro HB BK137 GW137 GE137; clear hb hbox hg) | ((with_reducible refine gate_callee (f := 171) rfl ?_); refine gl 12 Tryz.func171 #[.string a0, .string (⟨#[118]⟩ : ByteArray)] ?_; (with_reducible refine (strings_HasPrefix.calls a0 (⟨#[118]⟩ : ByteArray) true _ A2.out).mono ?_); rintro e w' ⟨rfl, ⟨nd, rfl⟩⟩; refine ⟨_, rfl, ?_⟩) | ((with_reducible refine gate_callee (f := 172) rfl ?_); refine gl 18 Tryz.func172 #[.string (a0.extract 1 a0.size), .string (⟨#[45]⟩ : ByteArray)] ?_; (with_reducible refine (strings_Cut.calls (a0.extract 1 a0.size) (⟨#[45]⟩ : ByteArray) t139 t140 t141 _ A5.out).mono ?_); rintro e w' ⟨rfl, ⟨nd, rfl⟩⟩; refine ⟨_, rfl, ?_⟩) | ((with_reducible refine gate_callee (f := 160) rfl ?_); refine gl 23 Tryz.func160 #[.string t139, .int .u8 46] ?_; (with_reducible refine (octet_Parts.calls t139 46 t142 _ A6.out).mono ?_); rintro e w9 ⟨v143, rfl, ho0, hb⟩; refine ⟨_, rfl, ?_⟩; have n0_ := Aside0.mk (Kd.R_lower ho0 (bz HB)); have n1_ := bb BK137 hb; have n2_ := bs HB hb; revert n0_ n1_ n2_; clear BK137 HB; intro HO144 BK137 HB; (try clear hb); (try clear ho0)))
   (try simp only [Act.put, List.setIfInBounds_toArray, List.set_cons_zero, List.set_cons_succ])
   go_cut [47] (fun v47 wc => ∃ (kq : Nat) (x47_6 : Bool), v47 = .bool x47_6 ∧ Aside0 (version_Split.j0 kq t140 t141 t142 x47_6 = some (r1, r2, r3, r4, r5)) ∧ Aside0 (kq ≤ k) ∧ Aside0 (Kd.R Kd.string 9 wc w.heap.size (fun _ => True) v143 t142) ∧ Aside0 (wc.heap[gb137]? = some (.cells #[.string (⟨#[]⟩ : ByteArray), .string (⟨#[]⟩ : ByteArray), .string (⟨#[]⟩ : ByteArray), (.slice none 0 0)] 146 (0, 0))) ∧ Aside0 (Below w.heap.size w wc))
   case first =>
    have H := HC7.out
    clear HC7
    by_cases c10 : (t142.length : Int) = 3
    ·rw [if_pos c10] at H
     have c10b0 := beq_iff_eq.mpr c10
     have c10b1 := bne_eq_false_iff_eq.mpr c10
     clear c10
     (first | rw [c10b0] | (simp only [i64_w, i32_w]; rw [c10b0]) | skip)
     by_cases c11 : 0 < (t142.length : Int)
     ·rw [if_pos c11] at H
      have c11b0 : decide (0 < (t142.length : Int)) = true := decide_eq_true c11
      have c11b1 : decide (0 < t142.length) = true := decide_eq_true (by omega)
      clear c11
      obtain ⟨t146, A12, H⟩ := bo H
      by_cases c13 : t146 = true
      ·subst c13
       replace H := it H
       by_cases c14 : 1 < (t142.length : Int)
       ·rw [if_pos c14] at H
        have c14b0 : decide (1 < (t142.length : Int)) = true := decide_eq_true c14
        have c14b1 : decide (1 < t142.length) = true := decide_eq_true (by omega)
        clear c14
        obtain ⟨t148, A15, H⟩ := bo H
        by_cases c16 : t148 = true
        ·subst c16
         replace H := it H
         by_cases c17 : 2 < (t142.length : Int)
         ·rw [if_pos c17] at H
          have c17b0 : decide (2 < (t142.length : Int)) = true := decide_eq_true c17
          have c17b1 : decide (2 < t142.length) = true := decide_eq_true (by omega)
          clear c17
          obtain ⟨t150, A18, H⟩ := bo H
          have H' := Aside0.mk H
          clear H
          obtain ⟨Ao19, co19, eo19⟩ := Kd.R_slice HO144.out
          subst eo19
          have p145 : 0 ≤ (0 : Int) := (by omega)
          have q145 : 0 < (t142.length : Int) := of_decide_eq_true (by first | (with_reducible assumption) | assumption)
          obtain ⟨ad145, e145, hx145_0⟩ := Kd.at_string (Kd.R_reads' HO144.out).2.2 0 p145 q145
          cases e145
          have qi145 : (0 < t142.length) = True := eq_true (by omega)
          (try rw [show ((0 : Int)).toNat = 0 from rfl] at hx145_0)
          (try rw [Addr.add_zero'] at hx145_0)
          replace p145 := eq_true p145
          replace q145 := eq_true q145
          go_wp2_with (first | (go_at_call 173; (with_reducible refine (number_May.calls (rdOf ByteArray.empty t142 0) true _ A12.out).mono ?_); rintro e w20 ⟨rfl, hb⟩; have n0_ := rb HO144 hb; have n1_ := bb BK137 hb; have n2_ := bs HB hb; revert n0_ n1_ n2_; clear HO144 BK137 HB; intro HO144 BK137 HB; (try clear hb); have p147 : 0 ≤ (1 : Int) := (by omega); have q147 : 1 < (t142.length : Int) := of_decide_eq_true (by first | (with_reducible assumption) | assumption); obtain ⟨ad147, e147, hx147_0⟩ := Kd.at_string (Kd.R_reads' HO144.out).2.2 1 p147 q147; obtain rfl : ad145 = ad147 := (by injection e147); (try simp only [show (1 : Int).toNat = 1 from rfl, Nat.reduceMul, Nat.reduceEqDiff, Go.Addr.add, ↓reduceIte] at hx147_0); have qi147 : (1 < t142.length) = True := eq_true (by omega); (try rw [show ((1 : Int)).toNat = 1 from rfl] at hx147_0); replace p147 := eq_true p147; replace q147 := eq_true q147) | (go_at_call 173; (with_reducible refine (number_May.calls (rdOf ByteArray.empty t142 1) true _ A15.out).mono ?_); rintro e w21 ⟨rfl, hb⟩; have n0_ := rb HO144 hb; have n1_ := bb BK137 hb; have n2_ := bs HB hb; revert n0_ n1_ n2_; clear HO144 BK137 HB; intro HO144 BK137 HB; (try clear hb); have p149 : 0 ≤ (2 : Int) := (by omega); have q149 : 2 < (t142.length : Int) := of_decide_eq_true (by first | (with_reducible assumption) | assumption); obtain ⟨ad149, e149, hx149_0⟩ := Kd.at_string (Kd.R_reads' HO144.out).2.2 2 p149 q149; obtain rfl : ad145 = ad149 := (by injection e149); (try simp only [show (2 : Int).toNat = 2 from rfl, Nat.reduceMul, Nat.reduceEqDiff, Go.Addr.add, ↓reduceIte] at hx149_0); have qi149 : (2 < t142.length) = True := eq_true (by omega); (try rw [show ((2 : Int)).toNat = 2 from rfl] at hx149_0); replace p149 := eq_true p149; replace q149 := eq_true q149) | (go_at_call 173; (with_reducible refine (number_May.calls (rdOf ByteArray.empty t142 2) t150 _ A18.out).mono ?_); rintro e w22 ⟨rfl, hb⟩; have n0_ := rb HO144 hb; have n1_ := bb BK137 hb; have n2_ := bs HB hb; revert n0_ n1_ n2_; clear HO144 BK137 HB; intro HO144 BK137 HB; (try clear hb)))
          go_meet
          case rel => exact ⟨_, (!t150), (by first | rfl | (simp; done) | (simp [*]; done)), H', ⟨by first | omega | exact Nat.le_refl _⟩, ⟨ra HO144⟩, ⟨by (with_reducible repeat (first | refine blk_drewN ?_ _ | refine blk_drew ?_ | refine blk_alloc ?_ _)); exact BK137.out⟩, ⟨ba HB⟩⟩
         ·rw [if_neg c17] at H
          exact absurd H (by simp)
        ·replace c16 := Bool.eq_false_iff.mpr c16
         subst c16
         replace H := jf H
         have H' := Aside0.mk H
         clear H
         obtain ⟨Ao23, co23, eo23⟩ := Kd.R_slice HO144.out
         subst eo23
         have p145 : 0 ≤ (0 : Int) := (by omega)
         have q145 : 0 < (t142.length : Int) := of_decide_eq_true (by first | (with_reducible assumption) | assumption)
         obtain ⟨ad145, e145, hx145_0⟩ := Kd.at_string (Kd.R_reads' HO144.out).2.2 0 p145 q145
         cases e145
         have qi145 : (0 < t142.length) = True := eq_true (by omega)
         (try rw [show ((0 : Int)).toNat = 0 from rfl] at hx145_0)
         (try rw [Addr.add_zero'] at hx145_0)
         replace p145 := eq_true p145
         replace q145 := eq_true q145
         go_wp2_with (first | (go_at_call 173; (with_reducible refine (number_May.calls (rdOf ByteArray.empty t142 0) true _ A12.out).mono ?_); rintro e w24 ⟨rfl, hb⟩; have n0_ := rb HO144 hb; have n1_ := bb BK137 hb; have n2_ := bs HB hb; revert n0_ n1_ n2_; clear HO144 BK137 HB; intro HO144 BK137 HB; (try clear hb); have p147 : 0 ≤ (1 : Int) := (by omega); have q147 : 1 < (t142.length : Int) := of_decide_eq_true (by first | (with_reducible assumption) | assumption); obtain ⟨ad147, e147, hx147_0⟩ := Kd.at_string (Kd.R_reads' HO144.out).2.2 1 p147 q147; obtain rfl : ad145 = ad147 := (by injection e147); (try simp only [show (1 : Int).toNat = 1 from rfl, Nat.reduceMul, Nat.reduceEqDiff, Go.Addr.add, ↓reduceIte] at hx147_0); have qi147 : (1 < t142.length) = True := eq_true (by omega); (try rw [show ((1 : Int)).toNat = 1 from rfl] at hx147_0); replace p147 := eq_true p147; replace q147 := eq_true q147) | (go_at_call 173; (with_reducible refine (number_May.calls (rdOf ByteArray.empty t142 1) false _ A15.out).mono ?_); rintro e w25 ⟨rfl, hb⟩; have n0_ := rb HO144 hb; have n1_ := bb BK137 hb; have n2_ := bs HB hb; revert n0_ n1_ n2_; clear HO144 BK137 HB; intro HO144 BK137 HB; (try clear hb)))
         go_meet
         case rel => exact ⟨_, (true), (by first | rfl | (simp; done) | (simp [*]; done)), H', ⟨by first | omega | exact Nat.le_refl _⟩, ⟨ra HO144⟩, ⟨by (with_reducible repeat (first | refine blk_drewN ?_ _ | refine blk_drew ?_ | refine blk_alloc ?_ _)); exact BK137.out⟩, ⟨ba HB⟩⟩
       ·rw [if_neg c14] at H
        exact absurd H (by simp)
      ·replace c13 := Bool.eq_false_iff.mpr c13
       subst c13
       replace H := jf H
       have H' := Aside0.mk H
       clear H
       obtain ⟨Ao26, co26, eo26⟩ := Kd.R_slice HO144.out
       subst eo26
       have p145 : 0 ≤ (0 : Int) := (by omega)
       have q145 : 0 < (t142.length : Int) := of_decide_eq_true (by first | (with_reducible assumption) | assumption)
       obtain ⟨ad145, e145, hx145_0⟩ := Kd.at_string (Kd.R_reads' HO144.out).2.2 0 p145 q145
       cases e145
       have qi145 : (0 < t142.length) = True := eq_true (by omega)
       (try rw [show ((0 : Int)).toNat = 0 from rfl] at hx145_0)
       (try rw [Addr.add_zero'] at hx145_0)
       replace p145 := eq_true p145
       replace q145 := eq_true q145
       go_wp2_with (first | (go_at_call 173; (with_reducible refine (number_May.calls (rdOf ByteArray.empty t142 0) false _ A12.out).mono ?_); rintro e w27 ⟨rfl, hb⟩; have n0_ := rb HO144 hb; have n1_ := bb BK137 hb; have n2_ := bs HB hb; revert n0_ n1_ n2_; clear HO144 BK137 HB; intro HO144 BK137 HB; (try clear hb)))
       go_meet
       case rel => exact ⟨_, (true), (by first | rfl | (simp; done) | (simp [*]; done)), H', ⟨by first | omega | exact Nat.le_refl _⟩, ⟨ra HO144⟩, ⟨by (with_reducible repeat (first | refine blk_drewN ?_ _ | refine blk_drew ?_ | refine blk_alloc ?_ _)); exact BK137.out⟩, ⟨ba HB⟩⟩
     ·rw [if_neg c11] at H
      exact absurd H (by simp)
    ·rw [if_neg c10] at H
     have c10b0 := beq_eq_false_iff_ne.mpr c10
     have c10b1 := bne_iff_ne.mpr c10
     (first | rw [c10b0] | (simp only [i64_w, i32_w]; rw [c10b0]) | skip)
     have H' := Aside0.mk H
     clear H
     obtain ⟨Ao28, co28, eo28⟩ := Kd.R_slice HO144.out
     subst eo28
     go_wp2
     go_meet
     case rel => exact ⟨_, (true), (by first | rfl | (simp; done) | (simp [*]; done)), H', ⟨by first | omega | exact Nat.le_refl _⟩, ⟨ra HO144⟩, ⟨by (with_reducible repeat (first | refine blk_drewN ?_ _ | refine blk_drew ?_ | refine blk_alloc ?_ _)); exact BK137.out⟩, ⟨ba HB⟩⟩
   case rest =>
    clear HC7
    try clear c1
    try clear p1
    try clear q1
    try clear hx1
    try clear qi1
    try clear p2
    try clear c3
    try clear c4
    try clear c4b0
    try clear c4b1
    try clear c10
    try clear c10b0
    try clear c10b1
    try clear c11
    try clear c11b0
    try clear c11b1
    try clear c13
    try clear c14
    try clear c14b0
    try clear c14b1
    try clear p14
    try clear q14
    try clear hx14
    try clear qi14
    try clear c15
    try clear c16
    try clear c17
    try clear c17b0
    try clear c17b1
    try clear hx145_0
    try clear hx147_0
    try clear hx149_0
    try clear p145
    try clear p147
    try clear p149
    try clear q145
    try clear q147
    try clear q149
    obtain ⟨kq, x47_6, rfl, HA, HJ6, HO_7, BK137, HB⟩ := hcut
    cases kq with
    | zero => exact absurd HA.out (by simp [version_Split.j0])
    | succ kj6 =>
     have H := HA.out
     clear HA
     simp only [version_Split.j0] at H
     by_cases c29 : x47_6 = true
     ·subst c29
      replace H := it H
      simp only [Option.some.injEq, Prod.mk.injEq] at H
      obtain ⟨rfl, rfl, rfl, rfl, rfl⟩ := H
      have hcz30_0 := bc BK137 0
      have hcz30_1 := bc BK137 1
      have hcz30_2 := bc BK137 2
      have hcz30_3 := bc BK137 3
      have hfz30_0 := bf BK137 0
      have hfz30_1 := bf BK137 1
      have hfz30_2 := bf BK137 2
      have hfz30_3 := bf BK137 3
      go_wp2
      refine bodyPost_ret (results_ct rfl _ _ gb137 146 #[.string (⟨#[]⟩ : ByteArray), .string (⟨#[]⟩ : ByteArray), .string (⟨#[]⟩ : ByteArray), .slice none 0 0] (0, 0) _ rfl (by (with_reducible repeat (first | refine blk_drewN ?_ _ | refine blk_drew ?_ | refine blk_alloc ?_ _)); refine blk_put (cs := #[.string (⟨#[]⟩ : ByteArray), .string (⟨#[]⟩ : ByteArray), .string (⟨#[]⟩ : ByteArray), .slice none 0 0]) ?_ 3 _ rfl; (with_reducible repeat (first | refine blk_drewN ?_ _ | refine blk_drew ?_ | refine blk_alloc ?_ _)); refine blk_put (cs := #[.string (⟨#[]⟩ : ByteArray), .string (⟨#[]⟩ : ByteArray), .string (⟨#[]⟩ : ByteArray), .slice none 0 0]) ?_ 2 _ rfl; (with_reducible repeat (first | refine blk_drewN ?_ _ | refine blk_drew ?_ | refine blk_alloc ?_ _)); refine blk_put (cs := #[.string (⟨#[]⟩ : ByteArray), .string (⟨#[]⟩ : ByteArray), .string (⟨#[]⟩ : ByteArray), .slice none 0 0]) ?_ 1 _ rfl; (with_reducible repeat (first | refine blk_drewN ?_ _ | refine blk_drew ?_ | refine blk_alloc ?_ _)); refine blk_put (cs := #[.string (⟨#[]⟩ : ByteArray), .string (⟨#[]⟩ : ByteArray), .string (⟨#[]⟩ : ByteArray), .slice none 0 0]) ?_ 0 _ rfl; (with_reducible repeat (first | refine blk_drewN ?_ _ | refine blk_drew ?_ | refine blk_alloc ?_ _)); exact BK137.out) Tryz.underlying146 rfl (by kernel_rfl)) rfl ?_
      exact ⟨_, by first | rfl | (simp [errW_none, errW_some] <;> rfl) | (simp [*, errW_none, errW_some] <;> rfl), by first | exact Kd.R_nil _ _ _ _ _ | exact Kd.N_nil _ _ _ _ _ | exact Kd.V_nil _ _ _ _ _ | exact Kd.Q_nil _ _ _ _ _ | exact Kd.S_nil _ _ _ _ _, ba HB⟩
     ·replace c29 := Bool.eq_false_iff.mpr c29
      subst c29
      replace H := jf H
      by_cases c31 : 0 < (t142.length : Int)
      ·rw [if_pos c31] at H
       have c31b0 : decide (0 < (t142.length : Int)) = true := decide_eq_true c31
       have c31b1 : decide (0 < t142.length) = true := decide_eq_true (by omega)
       clear c31
       by_cases c32 : 1 < (t142.length : Int)
       ·rw [if_pos c32] at H
        have c32b0 : decide (1 < (t142.length : Int)) = true := decide_eq_true c32
        have c32b1 : decide (1 < t142.length) = true := decide_eq_true (by omega)
        clear c32
        by_cases c33 : 2 < (t142.length : Int)
        ·rw [if_pos c33] at H
         have c33b0 : decide (2 < (t142.length : Int)) = true := decide_eq_true c33
         have c33b1 : decide (2 < t142.length) = true := decide_eq_true (by omega)
         clear c33
         by_cases c34 : t141 = true
         ·subst c34
          replace H := it H
          obtain ⟨t155, A35, H⟩ := bo H
          have H' := Aside0.mk H
          clear H
          try go_wp2
          have n0_ := Aside0.mk (Kd.R_drew HO_7.out)
          have n1_ := Aside0.mk (blk_drew BK137.out)
          have n2_ := Aside0.mk (below_drew1 HB.out)
          revert n0_ n1_ n2_
          clear HO_7 BK137 HB
          intro HO_7 BK137 HB
          obtain ⟨Ao37, co37, eo37⟩ := Kd.R_slice HO_7.out
          (first | subst eo37 | (injection eo37 with f1_ f2_ f3_; have f4_ := f1_.symm; have f5_ := f3_.symm; clear f1_ f2_ f3_; subst f4_; subst f5_))
          have p151 : 0 ≤ (0 : Int) := (by omega)
          have q151 : 0 < (t142.length : Int) := of_decide_eq_true (by first | (with_reducible assumption) | assumption)
          obtain ⟨ad151, e151, hx151_0⟩ := Kd.at_string (Kd.R_reads' HO_7.out).2.2 0 p151 q151
          cases e151
          have qi151 : (0 < t142.length) = True := eq_true (by omega)
          (try rw [show ((0 : Int)).toNat = 0 from rfl] at hx151_0)
          (try rw [Addr.add_zero'] at hx151_0)
          replace p151 := eq_true p151
          replace q151 := eq_true q151
          have p152 : 0 ≤ (1 : Int) := (by omega)
          have q152 : 1 < (t142.length : Int) := of_decide_eq_true (by first | (with_reducible assumption) | assumption)
          obtain ⟨ad152, e152, hx152_0⟩ := Kd.at_string (Kd.R_reads' HO_7.out).2.2 1 p152 q152
          obtain rfl : ad151 = ad152 := (by injection e152)
          (try simp only [show (1 : Int).toNat = 1 from rfl, Nat.reduceMul, Nat.reduceEqDiff, Go.Addr.add, ↓reduceIte] at hx152_0)
          have qi152 : (1 < t142.length) = True := eq_true (by omega)
          (try rw [show ((1 : Int)).toNat = 1 from rfl] at hx152_0)
          replace p152 := eq_true p152
          replace q152 := eq_true q152
          have p153 : 0 ≤ (2 : Int) := (by omega)
          have q153 : 2 < (t142.length : Int) := of_decide_eq_true (by first | (with_reducible assumption) | assumption)
          obtain ⟨ad153, e153, hx153_0⟩ := Kd.at_string (Kd.R_reads' HO_7.out).2.2 2 p153 q153
          obtain rfl : ad151 = ad153 := (by injection e153)
          (try simp only [show (2 : Int).toNat = 2 from rfl, Nat.reduceMul, Nat.reduceEqDiff, Go.Addr.add, ↓reduceIte] at hx153_0)
          have qi153 : (2 < t142.length) = True := eq_true (by omega)
          (try rw [show ((2 : Int)).toNat = 2 from rfl] at hx153_0)
          replace p153 := eq_true p153
          replace q153 := eq_true q153
          refine start_ (n := 12) (S := fun w' => w'.cell? ad151 = some (.string (rdOf ByteArray.empty t142 0)) ∧ w'.cell? ⟨ad151.block, ad151.off + 1, none⟩ = some (.string (rdOf ByteArray.empty t142 1)) ∧ w'.cell? ⟨ad151.block, ad151.off + 2, none⟩ = some (.string (rdOf ByteArray.empty t142 2))) (ds := []) #[false, false, false, false, false, false, false, false, false, false, false, false] (by kernel_rfl) rfl rfl ⟨hx151_0, hx152_0, hx153_0⟩ (fun hHeld => ?_); refine with_tabW version_Split.tab7 version_Split.bits7 (fun HT_ HW_ => ?_)
          generalize wc.drew = w36 at HO_7 BK137 HB hx151_0 hx152_0 hx153_0 hHeld ⊢
          refine pu 0 49 ?_
          refine pu 1 50 ?_
          refine pu 3 52 ?_
          refine pu 4 53 ?_
          refine pu 6 55 ?_
          refine pu 7 56 ?_
          refine tk 2 51 ?_
          refine tk 5 54 ?_
          refine tk 8 57 ?_
          refine pu 9 58 ?_
          refine oq 10 (some 8) fun K hK => ?_
          refine box_step ?hg (N := 8) ?hd (cs := #[.string (⟨#[]⟩ : ByteArray), .string (⟨#[]⟩ : ByteArray), .string (⟨#[]⟩ : ByteArray), .slice none 0 0]) (t := 146) ?hr ?_; (case hd => rfl); (case hg => rfl); (case hr => first | (go_simp; done) | (go_simp; rfl))
          intro gb154 hg w38 hbox hb
          have HS0_ := (hb.cell (World.block_lt_of_cell? _ _ (hHeld.1))).trans (hHeld.1)
          have HS1_ := (hb.cell (World.block_lt_of_cell? _ _ (hHeld.2.1))).trans (hHeld.2.1)
          have HS2_ := (hb.cell (World.block_lt_of_cell? _ _ (hHeld.2.2))).trans (hHeld.2.2)
          have n0_ := rb HO_7 hb
          have n1_ := bb BK137 hb
          have n2_ := bs HB hb
          have n3_ := Aside0.mk (hbox)
          have n4_ := gz hg HB
          have n5_ := gz hg HB
          have n6_ := Aside0.mk ((by rw [hg]; exact Nat.ne_of_lt (blk_lt (g := gb137) (o := .cells #[.string (⟨#[]⟩ : ByteArray), .string (⟨#[]⟩ : ByteArray), .string (⟨#[]⟩ : ByteArray), .slice none 0 0] 146 (0, 0)) (bk BK137)) : gb137 ≠ gb154))
          have n7_ := Aside0.mk ((by rw [hg]; exact Nat.ne_of_gt (blk_lt (g := gb137) (o := .cells #[.string (⟨#[]⟩ : ByteArray), .string (⟨#[]⟩ : ByteArray), .string (⟨#[]⟩ : ByteArray), .slice none 0 0] 146 (0, 0)) (bk BK137)) : gb154 ≠ gb137))
          revert n0_ n1_ n2_ n3_ n4_ n5_ n6_ n7_
          clear HO_7 BK137 HB
          intro HO_7 BK137 HB BK154 GW154 GE154 NB137_154 NB154_137
          clear hb hbox hg
          refine hK.out _ _ ⟨HS0_, HS1_, HS2_⟩ (fun hHeld => ?_)
          clear hK K
          refine nm ?_
          refine oq 11 none fun K hK => ?_
          have hs39 := bc BK154 0
          have hfs39 := bf BK154 0
          have hns39_0 := NB137_154.out
          have hms39_0 := NB154_137.out
          have hs40 := bc BK154 1
          have hfs40 := bf BK154 1
          have hns40_0 := NB137_154.out
          have hms40_0 := NB154_137.out
          have hs41 := bc BK154 2
          have hfs41 := bf BK154 2
          have hns41_0 := NB137_154.out
          have hms41_0 := NB154_137.out
          have hs42 := bc BK154 3
          have hfs42 := bf BK154 3
          have hns42_0 := NB137_154.out
          have hms42_0 := NB154_137.out
          refine sk ?_
          refine hK.out _ _ ⟨((cell_far (p := ⟨gb154, _, none⟩) (by first | exact Kd.own_blk (Kd.R_ne HO_7.out BK154.out (by decide)) | (rw [add_block]; exact Kd.own_blk (Kd.R_ne HO_7.out BK154.out (by decide))) | (show (Addr.add _ _).block ≠ _; rw [add_block]; exact Kd.own_blk (Kd.R_ne HO_7.out BK154.out (by decide))) | (dsimp only; exact Kd.own_blk (Kd.R_ne HO_7.out BK154.out (by decide)))) _).trans (((cell_far (p := ⟨gb154, _, none⟩) (by first | exact Kd.own_blk (Kd.R_ne HO_7.out BK154.out (by decide)) | (rw [add_block]; exact Kd.own_blk (Kd.R_ne HO_7.out BK154.out (by decide))) | (show (Addr.add _ _).block ≠ _; rw [add_block]; exact Kd.own_blk (Kd.R_ne HO_7.out BK154.out (by decide))) | (dsimp only; exact Kd.own_blk (Kd.R_ne HO_7.out BK154.out (by decide)))) _).trans (((cell_far (p := ⟨gb154, _, none⟩) (by first | exact Kd.own_blk (Kd.R_ne HO_7.out BK154.out (by decide)) | (rw [add_block]; exact Kd.own_blk (Kd.R_ne HO_7.out BK154.out (by decide))) | (show (Addr.add _ _).block ≠ _; rw [add_block]; exact Kd.own_blk (Kd.R_ne HO_7.out BK154.out (by decide))) | (dsimp only; exact Kd.own_blk (Kd.R_ne HO_7.out BK154.out (by decide)))) _).trans (((cell_far (p := ⟨gb154, _, none⟩) (by first | exact Kd.own_blk (Kd.R_ne HO_7.out BK154.out (by decide)) | (rw [add_block]; exact Kd.own_blk (Kd.R_ne HO_7.out BK154.out (by decide))) | (show (Addr.add _ _).block ≠ _; rw [add_block]; exact Kd.own_blk (Kd.R_ne HO_7.out BK154.out (by decide))) | (dsimp only; exact Kd.own_blk (Kd.R_ne HO_7.out BK154.out (by decide)))) _).trans (hHeld.1)))))))), ((cell_far (p := ⟨gb154, _, none⟩) (by first | exact Kd.own_blk (Kd.R_ne HO_7.out BK154.out (by decide)) | (rw [add_block]; exact Kd.own_blk (Kd.R_ne HO_7.out BK154.out (by decide))) | (show (Addr.add _ _).block ≠ _; rw [add_block]; exact Kd.own_blk (Kd.R_ne HO_7.out BK154.out (by decide))) | (dsimp only; exact Kd.own_blk (Kd.R_ne HO_7.out BK154.out (by decide)))) _).trans (((cell_far (p := ⟨gb154, _, none⟩) (by first | exact Kd.own_blk (Kd.R_ne HO_7.out BK154.out (by decide)) | (rw [add_block]; exact Kd.own_blk (Kd.R_ne HO_7.out BK154.out (by decide))) | (show (Addr.add _ _).block ≠ _; rw [add_block]; exact Kd.own_blk (Kd.R_ne HO_7.out BK154.out (by decide))) | (dsimp only; exact Kd.own_blk (Kd.R_ne HO_7.out BK154.out (by decide)))) _).trans (((cell_far (p := ⟨gb154, _, none⟩) (by first | exact Kd.own_blk (Kd.R_ne HO_7.out BK154.out (by decide)) | (rw [add_block]; exact Kd.own_blk (Kd.R_ne HO_7.out BK154.out (by decide))) | (show (Addr.add _ _).block ≠ _; rw [add_block]; exact Kd.own_blk (Kd.R_ne HO_7.out BK154.out (by decide))) | (dsimp only; exact Kd.own_blk (Kd.R_ne HO_7.out BK154.out (by decide)))) _).trans (((cell_far (p := ⟨gb154, _, none⟩) (by first | exact Kd.own_blk (Kd.R_ne HO_7.out BK154.out (by decide)) | (rw [add_block]; exact Kd.own_blk (Kd.R_ne HO_7.out BK154.out (by decide))) | (show (Addr.add _ _).block ≠ _; rw [add_block]; exact Kd.own_blk (Kd.R_ne HO_7.out BK154.out (by decide))) | (dsimp only; exact Kd.own_blk (Kd.R_ne HO_7.out BK154.out (by decide)))) _).trans (hHeld.2.1)))))))), ((cell_far (p := ⟨gb154, _, none⟩) (by first | exact Kd.own_blk (Kd.R_ne HO_7.out BK154.out (by decide)) | (rw [add_block]; exact Kd.own_blk (Kd.R_ne HO_7.out BK154.out (by decide))) | (show (Addr.add _ _).block ≠ _; rw [add_block]; exact Kd.own_blk (Kd.R_ne HO_7.out BK154.out (by decide))) | (dsimp only; exact Kd.own_blk (Kd.R_ne HO_7.out BK154.out (by decide)))) _).trans (((cell_far (p := ⟨gb154, _, none⟩) (by first | exact Kd.own_blk (Kd.R_ne HO_7.out BK154.out (by decide)) | (rw [add_block]; exact Kd.own_blk (Kd.R_ne HO_7.out BK154.out (by decide))) | (show (Addr.add _ _).block ≠ _; rw [add_block]; exact Kd.own_blk (Kd.R_ne HO_7.out BK154.out (by decide))) | (dsimp only; exact Kd.own_blk (Kd.R_ne HO_7.out BK154.out (by decide)))) _).trans (((cell_far (p := ⟨gb154, _, none⟩) (by first | exact Kd.own_blk (Kd.R_ne HO_7.out BK154.out (by decide)) | (rw [add_block]; exact Kd.own_blk (Kd.R_ne HO_7.out BK154.out (by decide))) | (show (Addr.add _ _).block ≠ _; rw [add_block]; exact Kd.own_blk (Kd.R_ne HO_7.out BK154.out (by decide))) | (dsimp only; exact Kd.own_blk (Kd.R_ne HO_7.out BK154.out (by decide)))) _).trans (((cell_far (p := ⟨gb154, _, none⟩) (by first | exact Kd.own_blk (Kd.R_ne HO_7.out BK154.out (by decide)) | (rw [add_block]; exact Kd.own_blk (Kd.R_ne HO_7.out BK154.out (by decide))) | (show (Addr.add _ _).block ≠ _; rw [add_block]; exact Kd.own_blk (Kd.R_ne HO_7.out BK154.out (by decide))) | (dsimp only; exact Kd.own_blk (Kd.R_ne HO_7.out BK154.out (by decide)))) _).trans (hHeld.2.2))))))))⟩ (fun hHeld => ?_)
          clear hK K
          refine dq ?_
          try go_wp2_with (first | ((with_reducible refine gate_callee (f := 160) rfl ?_); refine gl 63 Tryz.func160 #[.string t140, .int .u8 46] ?_; (with_reducible refine (octet_Parts.calls t140 46 t155 _ A35.out).mono ?_); rintro e w43 ⟨v156, rfl, ho0, hb⟩; refine ⟨_, rfl, ?_⟩; have n0_ := Aside0.mk (Kd.R_elder' (by (with_reducible repeat (first | apply Kd.R_alloc | apply Kd.R_drewN | apply Kd.R_drew)); exact (Kd.R_mono (Kd.R_far (p := ⟨gb154, 3, none⟩) (Kd.R_far (p := ⟨gb154, 2, none⟩) (Kd.R_far (p := ⟨gb154, 1, none⟩) (Kd.R_far (p := ⟨gb154, 0, none⟩) (Kd.R_types HO_7.out BK154.out (by decide)) (fun _ hk => hk.2) (.string (rdOf ByteArray.empty t142 0))) (fun _ hk => hk.2) (.string (rdOf ByteArray.empty t142 1))) (fun _ hk => hk.2) (.string (rdOf ByteArray.empty t142 2))) (fun _ hk => hk.2) (.slice none 0 0)) (fun _ h_ => h_.1))) (Kd.R_base ho0) hb); have n1_ := Aside0.mk (Kd.R_lower (Kd.R_new' ho0 (Kd.R_lt (by (with_reducible repeat (first | apply Kd.R_alloc | apply Kd.R_drewN | apply Kd.R_drew)); exact (Kd.R_mono (Kd.R_far (p := ⟨gb154, 3, none⟩) (Kd.R_far (p := ⟨gb154, 2, none⟩) (Kd.R_far (p := ⟨gb154, 1, none⟩) (Kd.R_far (p := ⟨gb154, 0, none⟩) (Kd.R_types HO_7.out BK154.out (by decide)) (fun _ hk => hk.2) (.string (rdOf ByteArray.empty t142 0))) (fun _ hk => hk.2) (.string (rdOf ByteArray.empty t142 1))) (fun _ hk => hk.2) (.string (rdOf ByteArray.empty t142 2))) (fun _ hk => hk.2) (.slice none 0 0)) (fun _ h_ => h_.1))))) (bz HB)); have n2_ := Aside0.mk (blk_below (g := gb137) (o := .cells #[.string (⟨#[]⟩ : ByteArray), .string (⟨#[]⟩ : ByteArray), .string (⟨#[]⟩ : ByteArray), .slice none 0 0] 146 (0, 0)) (by (with_reducible repeat (first | refine blk_drewN ?_ _ | refine blk_drew ?_ | refine blk_alloc ?_ _)); refine blk_far ?_ NB137_154.out _; (with_reducible repeat (first | refine blk_drewN ?_ _ | refine blk_drew ?_ | refine blk_alloc ?_ _)); refine blk_far ?_ NB137_154.out _; (with_reducible repeat (first | refine blk_drewN ?_ _ | refine blk_drew ?_ | refine blk_alloc ?_ _)); refine blk_far ?_ NB137_154.out _; (with_reducible repeat (first | refine blk_drewN ?_ _ | refine blk_drew ?_ | refine blk_alloc ?_ _)); refine blk_far ?_ NB137_154.out _; (with_reducible repeat (first | refine blk_drewN ?_ _ | refine blk_drew ?_ | refine blk_alloc ?_ _)); exact BK137.out) hb); have n3_ := Aside0.mk (blk_below (g := gb154) (o := .cells #[.string (rdOf ByteArray.empty t142 0), .string (rdOf ByteArray.empty t142 1), .string (rdOf ByteArray.empty t142 2), .slice none 0 0] 146 (0, 0)) (by (with_reducible repeat (first | refine blk_drewN ?_ _ | refine blk_drew ?_ | refine blk_alloc ?_ _)); refine blk_put (cs := #[.string (rdOf ByteArray.empty t142 0), .string (rdOf ByteArray.empty t142 1), .string (rdOf ByteArray.empty t142 2), .slice none 0 0]) ?_ 3 _ rfl; (with_reducible repeat (first | refine blk_drewN ?_ _ | refine blk_drew ?_ | refine blk_alloc ?_ _)); refine blk_put (cs := #[.string (rdOf ByteArray.empty t142 0), .string (rdOf ByteArray.empty t142 1), .string (⟨#[]⟩ : ByteArray), .slice none 0 0]) ?_ 2 _ rfl; (with_reducible repeat (first | refine blk_drewN ?_ _ | refine blk_drew ?_ | refine blk_alloc ?_ _)); refine blk_put (cs := #[.string (rdOf ByteArray.empty t142 0), .string (⟨#[]⟩ : ByteArray), .string (⟨#[]⟩ : ByteArray), .slice none 0 0]) ?_ 1 _ rfl; (with_reducible repeat (first | refine blk_drewN ?_ _ | refine blk_drew ?_ | refine blk_alloc ?_ _)); refine blk_put (cs := #[.string (⟨#[]⟩ : ByteArray), .string (⟨#[]⟩ : ByteArray), .string (⟨#[]⟩ : ByteArray), .slice none 0 0]) ?_ 0 _ rfl; (with_reducible repeat (first | refine blk_drewN ?_ _ | refine blk_drew ?_ | refine blk_alloc ?_ _)); exact BK154.out) hb); have n4_ := bs HB hb; revert n0_ n1_ n2_ n3_ n4_; clear HO_7 BK137 BK154 HB; intro HO_7 HO157 BK137 BK154 HB; (try clear hb); (try clear ho0); obtain ⟨Ao44, co44, eo44⟩ := Kd.R_slice HO157.out; subst eo44; have hnb45 := NB154_137.out; have hnc45 := NB137_154.out; have hcz46_0 := bc BK154 0; have hcz46_1 := bc BK154 1; have hcz46_2 := bc BK154 2; have hcz46_3 := bc BK154 3; have hfz46_0 := bf BK154 0; have hfz46_1 := bf BK154 1; have hfz46_2 := bf BK154 2; have hfz46_3 := bf BK154 3))
          go_loopg [68] kj6 (fun kq v68 w' => ∃ (x68_2 : Int) (x138000_2 : ByteArray) (x138001_2 : ByteArray) (x138002_2 : ByteArray), v68 = .int .i64 x68_2 ∧ Aside0 (version_Split.l0 kq t155 (t155.length : Int) x68_2 (rdOf ByteArray.empty t142 0) (rdOf ByteArray.empty t142 1) (rdOf ByteArray.empty t142 2) t155 = some (r1, r2, r3, r4, r5)) ∧ Aside0 (kq ≤ kj6) ∧ Aside0 (Kd.R Kd.string 9 w' w.heap.size (fun _ => True) (.slice Ao44 t155.length co44) t155) ∧ Aside0 (Kd.R Kd.string 9 w' w.heap.size (fun _ => True) (.slice Ao44 t155.length co44) t155) ∧ Aside0 (w'.heap[gb137]? = some (.cells #[.string x138000_2, .string x138001_2, .string x138002_2, (.slice none 0 0)] 146 (0, 0))) ∧ Aside0 (w'.heap[gb154]? = some (.cells #[.string (rdOf ByteArray.empty t142 0), .string (rdOf ByteArray.empty t142 1), .string (rdOf ByteArray.empty t142 2), (.slice Ao44 t155.length co44)] 146 (0, 0))) ∧ Aside0 (Below w.heap.size w w'))
          case atStart => exact ⟨(0), ((⟨#[]⟩ : ByteArray)), ((⟨#[]⟩ : ByteArray)), ((⟨#[]⟩ : ByteArray)), (by first | rfl | (simp; done) | (simp [*]; done)), H', ⟨Nat.le_refl _⟩, ⟨by (with_reducible repeat (first | apply Kd.R_alloc | apply Kd.R_drewN | apply Kd.R_drew)); exact Kd.R_mono (Kd.R_far (p := ⟨gb154, 3, none⟩) (Kd.R_types HO157.out BK154.out (by decide)) (fun _ hk => hk.2) (.slice Ao44 t155.length co44)) (fun _ hk => trivial)⟩, ⟨by (with_reducible repeat (first | apply Kd.R_alloc | apply Kd.R_drewN | apply Kd.R_drew)); exact Kd.R_mono (Kd.R_far (p := ⟨gb154, 3, none⟩) (Kd.R_types HO157.out BK154.out (by decide)) (fun _ hk => hk.2) (.slice Ao44 t155.length co44)) (fun _ hk => trivial)⟩, ⟨by (with_reducible repeat (first | refine blk_drewN ?_ _ | refine blk_drew ?_ | refine blk_alloc ?_ _)); refine blk_far ?_ NB137_154.out _; (with_reducible repeat (first | refine blk_drewN ?_ _ | refine blk_drew ?_ | refine blk_alloc ?_ _)); exact BK137.out⟩, ⟨by (with_reducible repeat (first | refine blk_drewN ?_ _ | refine blk_drew ?_ | refine blk_alloc ?_ _)); refine blk_put (cs := #[.string (rdOf ByteArray.empty t142 0), .string (rdOf ByteArray.empty t142 1), .string (rdOf ByteArray.empty t142 2), .slice none 0 0]) ?_ 3 _ rfl; (with_reducible repeat (first | refine blk_drewN ?_ _ | refine blk_drew ?_ | refine blk_alloc ?_ _)); exact BK154.out⟩, ⟨ba HB⟩⟩
          case round =>
           clear H'
           try clear c1
           try clear p1
           try clear q1
           try clear hx1
           try clear qi1
           try clear c2
           try clear p2
           try clear c3
           try clear c4
           try clear c4b0
           try clear c4b1
           try clear c10
           try clear c10b0
           try clear c10b1
           try clear c11
           try clear c11b0
           try clear c11b1
           try clear c13
           try clear c14
           try clear c14b0
           try clear c14b1
           try clear p14
           try clear q14
           try clear hx14
           try clear qi14
           try clear c15
           try clear p15
           try clear q15
           try clear hx15
           try clear qi15
           try clear c16
           try clear c17
           try clear c17b0
           try clear c17b1
           try clear c29
           try clear c31
           try clear c31b0
           try clear c31b1
           try clear c32
           try clear c32b0
           try clear c32b1
           try clear c33
           try clear c33b0
           try clear c33b1
           try clear c34
           try clear c45
           try clear hcz30_0
           try clear hcz30_1
           try clear hcz30_2
           try clear hcz30_3
           try clear hcz46_0
           try clear hcz46_1
           try clear hcz46_2
           try clear hcz46_3
           try clear hfz30_0
           try clear hfz30_1
           try clear hfz30_2
           try clear hfz30_3
           try clear hfz46_0
           try clear hfz46_1
           try clear hfz46_2
           try clear hfz46_3
           try clear hx145_0
           try clear hx147_0
           try clear hx149_0
           try clear hx151_0
           try clear hx152_0
           try clear hx153_0
           try clear p1
           try clear p14
           try clear p145
           try clear p147
           try clear p149
           try clear p151
           try clear p152
           try clear p153
           try clear p2
           try clear q1
           try clear q14
           try clear q145
           try clear q147
           try clear q149
           try clear q151
           try clear q152
           try clear q153
           obtain ⟨x68_2, x138000_2, x138001_2, x138002_2, rfl, HA, HK2, HO_66, HO_155003, BK137, BK154, HB⟩ := hrel
           cases gk with
           | zero => exact absurd HA.out (by simp [version_Split.l0])
           | succ k2 =>
            have H := HA.out
            clear HA
            simp only [version_Split.l0] at H
            by_cases c47 : x68_2 < (t155.length : Int)
            ·rw [if_pos c47] at H
             have c47b0 : decide (x68_2 < (t155.length : Int)) = true := decide_eq_true c47
             clear c47
             by_cases c48 : 0 ≤ x68_2
             ·rw [if_pos c48] at H
              have c48b0 : decide (0 ≤ x68_2) = true := decide_eq_true c48
              clear c48
              by_cases c49 : x68_2 < (t155.length : Int)
              ·rw [if_pos c49] at H
               have c49b0 : decide (x68_2 < (t155.length : Int)) = true := decide_eq_true c49
               clear c49
               obtain ⟨t159, A50, H⟩ := bo H
               by_cases c51 : t159 = true
               ·subst c51
                replace H := it H
                have H' := Aside0.mk H
                clear H
                have p158 : 0 ≤ (x68_2 : Int) := of_decide_eq_true (by first | (with_reducible assumption) | assumption)
                have q158 : x68_2 < (t155.length : Int) := of_decide_eq_true (by first | (with_reducible assumption) | assumption)
                obtain ⟨ad158, e158, hx158_0⟩ := Kd.at_string (Kd.R_reads' HO_66.out).2.2 x68_2 p158 q158
                cases e158
                replace p158 := eq_true p158
                replace q158 := eq_true q158
                go_wp2_with (first | ((with_reducible refine gate_callee (f := 174) rfl ?_); refine gl 73 Tryz.func174 #[.string (rdOf ByteArray.empty t155 x68_2)] ?_; (with_reducible refine (version_word.calls k2 (rdOf ByteArray.empty t155 x68_2) true _ A50.out).mono ?_); rintro e w52 ⟨rfl, hb⟩; refine ⟨_, rfl, ?_⟩; have n0_ := rb HO_66 hb; have n1_ := rb HO_155003 hb; have n2_ := bb BK137 hb; have n3_ := bb BK154 hb; have n4_ := bs HB hb; revert n0_ n1_ n2_ n3_ n4_; clear HO_66 HO_155003 BK137 BK154 HB; intro HO_66 HO_155003 BK137 BK154 HB; (try clear hb)))
                go_roundg k2
                case measure => have := HJ6.out; have := HK2.out; omega
                case rel => exact ⟨(wrap64 (x68_2 + 1)), (x138000_2), (x138001_2), (x138002_2), (by first | rfl | (simp; done) | (simp [*]; done)), H', ⟨by have := HJ6.out; have := HK2.out; omega⟩, ⟨ra HO_66⟩, ⟨ra HO_155003⟩, ⟨by (with_reducible repeat (first | refine blk_drewN ?_ _ | refine blk_drew ?_ | refine blk_alloc ?_ _)); exact BK137.out⟩, ⟨by (with_reducible repeat (first | refine blk_drewN ?_ _ | refine blk_drew ?_ | refine blk_alloc ?_ _)); exact BK154.out⟩, ⟨ba HB⟩⟩
               ·replace c51 := Bool.eq_false_iff.mpr c51
                subst c51
                replace H := jf H
                simp only [Option.some.injEq, Prod.mk.injEq] at H
                obtain ⟨rfl, rfl, rfl, rfl, rfl⟩ := H
                have p158 : 0 ≤ (x68_2 : Int) := of_decide_eq_true (by first | (with_reducible assumption) | assumption)
                have q158 : x68_2 < (t155.length : Int) := of_decide_eq_true (by first | (with_reducible assumption) | assumption)
                obtain ⟨ad158, e158, hx158_0⟩ := Kd.at_string (Kd.R_reads' HO_66.out).2.2 x68_2 p158 q158
                cases e158
                replace p158 := eq_true p158
                replace q158 := eq_true q158
                go_wp2_with (first | ((with_reducible refine gate_callee (f := 174) rfl ?_); refine gl 73 Tryz.func174 #[.string (rdOf ByteArray.empty t155 x68_2)] ?_; (with_reducible refine (version_word.calls k2 (rdOf ByteArray.empty t155 x68_2) false _ A50.out).mono ?_); rintro e w53 ⟨rfl, hb⟩; refine ⟨_, rfl, ?_⟩; have n0_ := rb HO_66 hb; have n1_ := rb HO_155003 hb; have n2_ := bb BK137 hb; have n3_ := bb BK154 hb; have n4_ := bs HB hb; revert n0_ n1_ n2_ n3_ n4_; clear HO_66 HO_155003 BK137 BK154 HB; intro HO_66 HO_155003 BK137 BK154 HB; (try clear hb); have hnb54 := NB137_154.out; have hnc54 := NB154_137.out; have hcz55_0 := bc BK137 0; have hcz55_1 := bc BK137 1; have hcz55_2 := bc BK137 2; have hcz55_3 := bc BK137 3; have hfz55_0 := bf BK137 0; have hfz55_1 := bf BK137 1; have hfz55_2 := bf BK137 2; have hfz55_3 := bf BK137 3))
                refine bodyPost_ret (results_ct rfl _ _ gb137 146 #[.string (⟨#[]⟩ : ByteArray), .string (⟨#[]⟩ : ByteArray), .string (⟨#[]⟩ : ByteArray), .slice none 0 0] (0, 0) _ rfl (by (with_reducible repeat (first | refine blk_drewN ?_ _ | refine blk_drew ?_ | refine blk_alloc ?_ _)); refine blk_put (cs := #[.string (⟨#[]⟩ : ByteArray), .string (⟨#[]⟩ : ByteArray), .string (⟨#[]⟩ : ByteArray), .slice none 0 0]) ?_ 3 _ rfl; (with_reducible repeat (first | refine blk_drewN ?_ _ | refine blk_drew ?_ | refine blk_alloc ?_ _)); refine blk_put (cs := #[.string (⟨#[]⟩ : ByteArray), .string (⟨#[]⟩ : ByteArray), .string x138002_2, .slice none 0 0]) ?_ 2 _ rfl; (with_reducible repeat (first | refine blk_drewN ?_ _ | refine blk_drew ?_ | refine blk_alloc ?_ _)); refine blk_put (cs := #[.string (⟨#[]⟩ : ByteArray), .string x138001_2, .string x138002_2, .slice none 0 0]) ?_ 1 _ rfl; (with_reducible repeat (first | refine blk_drewN ?_ _ | refine blk_drew ?_ | refine blk_alloc ?_ _)); refine blk_put (cs := #[.string x138000_2, .string x138001_2, .string x138002_2, .slice none 0 0]) ?_ 0 _ rfl; (with_reducible repeat (first | refine blk_drewN ?_ _ | refine blk_drew ?_ | refine blk_alloc ?_ _)); exact BK137.out) Tryz.underlying146 rfl (by kernel_rfl)) rfl ?_
                exact ⟨_, by first | rfl | (simp [errW_none, errW_some] <;> rfl) | (simp [*, errW_none, errW_some] <;> rfl), by first | exact Kd.R_nil _ _ _ _ _ | exact Kd.N_nil _ _ _ _ _ | exact Kd.V_nil _ _ _ _ _ | exact Kd.Q_nil _ _ _ _ _ | exact Kd.S_nil _ _ _ _ _, ba HB⟩
              ·rw [if_neg c49] at H
               exact absurd H (by simp)
             ·rw [if_neg c48] at H
              exact absurd H (by simp)
            ·rw [if_neg c47] at H
             have c47b0 : decide (x68_2 < (t155.length : Int)) = false := decide_eq_false c47
             clear c47
             simp only [Option.some.injEq, Prod.mk.injEq] at H
             obtain ⟨rfl, rfl, rfl, rfl, rfl⟩ := H
             have hnb56 := NB154_137.out
             have hnc56 := NB137_154.out
             have hcz57_0 := bc BK154 0
             have hcz57_1 := bc BK154 1
             have hcz57_2 := bc BK154 2
             have hcz57_3 := bc BK154 3
             have hfz57_0 := bf BK154 0
             have hfz57_1 := bf BK154 1
             have hfz57_2 := bf BK154 2
             have hfz57_3 := bf BK154 3
             have hcz58_0 := bc BK137 0
             have hcz58_1 := bc BK137 1
             have hcz58_2 := bc BK137 2
             have hcz58_3 := bc BK137 3
             have hfz58_0 := bf BK137 0
             have hfz58_1 := bf BK137 1
             have hfz58_2 := bf BK137 2
             have hfz58_3 := bf BK137 3
             go_wp2
             refine bodyPost_ret (results_ct rfl _ _ gb137 146 #[.string (rdOf ByteArray.empty t142 0), .string (rdOf ByteArray.empty t142 1), .string (rdOf ByteArray.empty t142 2), .slice Ao44 t155.length co44] (0, 0) _ rfl (by (with_reducible repeat (first | refine blk_drewN ?_ _ | refine blk_drew ?_ | refine blk_alloc ?_ _)); refine blk_put (cs := #[.string (rdOf ByteArray.empty t142 0), .string (rdOf ByteArray.empty t142 1), .string (rdOf ByteArray.empty t142 2), .slice none 0 0]) ?_ 3 _ rfl; (with_reducible repeat (first | refine blk_drewN ?_ _ | refine blk_drew ?_ | refine blk_alloc ?_ _)); refine blk_put (cs := #[.string (rdOf ByteArray.empty t142 0), .string (rdOf ByteArray.empty t142 1), .string x138002_2, .slice none 0 0]) ?_ 2 _ rfl; (with_reducible repeat (first | refine blk_drewN ?_ _ | refine blk_drew ?_ | refine blk_alloc ?_ _)); refine blk_put (cs := #[.string (rdOf ByteArray.empty t142 0), .string x138001_2, .string x138002_2, .slice none 0 0]) ?_ 1 _ rfl; (with_reducible repeat (first | refine blk_drewN ?_ _ | refine blk_drew ?_ | refine blk_alloc ?_ _)); refine blk_put (cs := #[.string x138000_2, .string x138001_2, .string x138002_2, .slice none 0 0]) ?_ 0 _ rfl; (with_reducible repeat (first | refine blk_drewN ?_ _ | refine blk_drew ?_ | refine blk_alloc ?_ _)); exact BK137.out) Tryz.underlying146 rfl (by kernel_rfl)) rfl ?_
             exact ⟨_, by first | rfl | (simp [errW_none, errW_some] <;> rfl) | (simp [*, errW_none, errW_some] <;> rfl), by (with_reducible repeat (first | apply Kd.R_alloc | apply Kd.R_drewN | apply Kd.R_drew)); exact Kd.R_mono (Kd.R_far (p := ⟨gb137, 3, none⟩) (Kd.R_far (p := ⟨gb137, 2, none⟩) (Kd.R_far (p := ⟨gb137, 1, none⟩) (Kd.R_far (p := ⟨gb137, 0, none⟩) (Kd.R_types HO_155003.out BK137.out (by decide)) (fun _ hk => hk.2) (.string (rdOf ByteArray.empty t142 0))) (fun _ hk => hk.2) (.string (rdOf ByteArray.empty t142 1))) (fun _ hk => hk.2) (.string (rdOf ByteArray.empty t142 2))) (fun _ hk => hk.2) (.slice Ao44 t155.length co44)) (fun _ hk => trivial), ba HB⟩
         ·replace c34 := Bool.eq_false_iff.mpr c34
          subst c34
          replace H := jf H
          simp only [Option.some.injEq, Prod.mk.injEq] at H
          obtain ⟨rfl, rfl, rfl, rfl, rfl⟩ := H
          try go_wp2
          have n0_ := Aside0.mk (Kd.R_drew HO_7.out)
          have n1_ := Aside0.mk (blk_drew BK137.out)
          have n2_ := Aside0.mk (below_drew1 HB.out)
          revert n0_ n1_ n2_
          clear HO_7 BK137 HB
          intro HO_7 BK137 HB
          obtain ⟨Ao60, co60, eo60⟩ := Kd.R_slice HO_7.out
          (first | subst eo60 | (injection eo60 with f1_ f2_ f3_; have f4_ := f1_.symm; have f5_ := f3_.symm; clear f1_ f2_ f3_; subst f4_; subst f5_))
          have p151 : 0 ≤ (0 : Int) := (by omega)
          have q151 : 0 < (t142.length : Int) := of_decide_eq_true (by first | (with_reducible assumption) | assumption)
          obtain ⟨ad151, e151, hx151_0⟩ := Kd.at_string (Kd.R_reads' HO_7.out).2.2 0 p151 q151
          cases e151
          have qi151 : (0 < t142.length) = True := eq_true (by omega)
          (try rw [show ((0 : Int)).toNat = 0 from rfl] at hx151_0)
          (try rw [Addr.add_zero'] at hx151_0)
          replace p151 := eq_true p151
          replace q151 := eq_true q151
          have p152 : 0 ≤ (1 : Int) := (by omega)
          have q152 : 1 < (t142.length : Int) := of_decide_eq_true (by first | (with_reducible assumption) | assumption)
          obtain ⟨ad152, e152, hx152_0⟩ := Kd.at_string (Kd.R_reads' HO_7.out).2.2 1 p152 q152
          obtain rfl : ad151 = ad152 := (by injection e152)
          (try simp only [show (1 : Int).toNat = 1 from rfl, Nat.reduceMul, Nat.reduceEqDiff, Go.Addr.add, ↓reduceIte] at hx152_0)
          have qi152 : (1 < t142.length) = True := eq_true (by omega)
          (try rw [show ((1 : Int)).toNat = 1 from rfl] at hx152_0)
          replace p152 := eq_true p152
          replace q152 := eq_true q152
          have p153 : 0 ≤ (2 : Int) := (by omega)
          have q153 : 2 < (t142.length : Int) := of_decide_eq_true (by first | (with_reducible assumption) | assumption)
          obtain ⟨ad153, e153, hx153_0⟩ := Kd.at_string (Kd.R_reads' HO_7.out).2.2 2 p153 q153
          obtain rfl : ad151 = ad153 := (by injection e153)
          (try simp only [show (2 : Int).toNat = 2 from rfl, Nat.reduceMul, Nat.reduceEqDiff, Go.Addr.add, ↓reduceIte] at hx153_0)
          have qi153 : (2 < t142.length) = True := eq_true (by omega)
          (try rw [show ((2 : Int)).toNat = 2 from rfl] at hx153_0)
          replace p153 := eq_true p153
          replace q153 := eq_true q153
          refine start_ (n := 12) (S := fun w' => w'.cell? ad151 = some (.string (rdOf ByteArray.empty t142 0)) ∧ w'.cell? ⟨ad151.block, ad151.off + 1, none⟩ = some (.string (rdOf ByteArray.empty t142 1)) ∧ w'.cell? ⟨ad151.block, ad151.off + 2, none⟩ = some (.string (rdOf ByteArray.empty t142 2))) (ds := []) #[false, false, false, false, false, false, false, false, false, false, false, false] (by kernel_rfl) rfl rfl ⟨hx151_0, hx152_0, hx153_0⟩ (fun hHeld => ?_); refine with_tabW version_Split.tab7 version_Split.bits7 (fun HT_ HW_ => ?_)
          generalize wc.drew = w59 at HO_7 BK137 HB hx151_0 hx152_0 hx153_0 hHeld ⊢
          refine pu 0 49 ?_
          refine pu 1 50 ?_
          refine pu 3 52 ?_
          refine pu 4 53 ?_
          refine pu 6 55 ?_
          refine pu 7 56 ?_
          refine tk 2 51 ?_
          refine tk 5 54 ?_
          refine tk 8 57 ?_
          refine pu 9 58 ?_
          refine oq 10 (some 8) fun K hK => ?_
          refine box_step ?hg (N := 8) ?hd (cs := #[.string (⟨#[]⟩ : ByteArray), .string (⟨#[]⟩ : ByteArray), .string (⟨#[]⟩ : ByteArray), .slice none 0 0]) (t := 146) ?hr ?_; (case hd => rfl); (case hg => rfl); (case hr => first | (go_simp; done) | (go_simp; rfl))
          intro gb154 hg w61 hbox hb
          have HS0_ := (hb.cell (World.block_lt_of_cell? _ _ (hHeld.1))).trans (hHeld.1)
          have HS1_ := (hb.cell (World.block_lt_of_cell? _ _ (hHeld.2.1))).trans (hHeld.2.1)
          have HS2_ := (hb.cell (World.block_lt_of_cell? _ _ (hHeld.2.2))).trans (hHeld.2.2)
          have n0_ := rb HO_7 hb
          have n1_ := bb BK137 hb
          have n2_ := bs HB hb
          have n3_ := Aside0.mk (hbox)
          have n4_ := gz hg HB
          have n5_ := gz hg HB
          have n6_ := Aside0.mk ((by rw [hg]; exact Nat.ne_of_lt (blk_lt (g := gb137) (o := .cells #[.string (⟨#[]⟩ : ByteArray), .string (⟨#[]⟩ : ByteArray), .string (⟨#[]⟩ : ByteArray), .slice none 0 0] 146 (0, 0)) (bk BK137)) : gb137 ≠ gb154))
          have n7_ := Aside0.mk ((by rw [hg]; exact Nat.ne_of_gt (blk_lt (g := gb137) (o := .cells #[.string (⟨#[]⟩ : ByteArray), .string (⟨#[]⟩ : ByteArray), .string (⟨#[]⟩ : ByteArray), .slice none 0 0] 146 (0, 0)) (bk BK137)) : gb154 ≠ gb137))
          revert n0_ n1_ n2_ n3_ n4_ n5_ n6_ n7_
          clear HO_7 BK137 HB
          intro HO_7 BK137 HB BK154 GW154 GE154 NB137_154 NB154_137
          clear hb hbox hg
          refine hK.out _ _ ⟨HS0_, HS1_, HS2_⟩ (fun hHeld => ?_)
          clear hK K
          refine nm ?_
          refine oq 11 none fun K hK => ?_
          have hs62 := bc BK154 0
          have hfs62 := bf BK154 0
          have hns62_0 := NB137_154.out
          have hms62_0 := NB154_137.out
          have hs63 := bc BK154 1
          have hfs63 := bf BK154 1
          have hns63_0 := NB137_154.out
          have hms63_0 := NB154_137.out
          have hs64 := bc BK154 2
          have hfs64 := bf BK154 2
          have hns64_0 := NB137_154.out
          have hms64_0 := NB154_137.out
          have hs65 := bc BK154 3
          have hfs65 := bf BK154 3
          have hns65_0 := NB137_154.out
          have hms65_0 := NB154_137.out
          refine sk ?_
          refine hK.out _ _ ⟨((cell_far (p := ⟨gb154, _, none⟩) (by first | exact Kd.own_blk (Kd.R_ne HO_7.out BK154.out (by decide)) | (rw [add_block]; exact Kd.own_blk (Kd.R_ne HO_7.out BK154.out (by decide))) | (show (Addr.add _ _).block ≠ _; rw [add_block]; exact Kd.own_blk (Kd.R_ne HO_7.out BK154.out (by decide))) | (dsimp only; exact Kd.own_blk (Kd.R_ne HO_7.out BK154.out (by decide)))) _).trans (((cell_far (p := ⟨gb154, _, none⟩) (by first | exact Kd.own_blk (Kd.R_ne HO_7.out BK154.out (by decide)) | (rw [add_block]; exact Kd.own_blk (Kd.R_ne HO_7.out BK154.out (by decide))) | (show (Addr.add _ _).block ≠ _; rw [add_block]; exact Kd.own_blk (Kd.R_ne HO_7.out BK154.out (by decide))) | (dsimp only; exact Kd.own_blk (Kd.R_ne HO_7.out BK154.out (by decide)))) _).trans (((cell_far (p := ⟨gb154, _, none⟩) (by first | exact Kd.own_blk (Kd.R_ne HO_7.out BK154.out (by decide)) | (rw [add_block]; exact Kd.own_blk (Kd.R_ne HO_7.out BK154.out (by decide))) | (show (Addr.add _ _).block ≠ _; rw [add_block]; exact Kd.own_blk (Kd.R_ne HO_7.out BK154.out (by decide))) | (dsimp only; exact Kd.own_blk (Kd.R_ne HO_7.out BK154.out (by decide)))) _).trans (((cell_far (p := ⟨gb154, _, none⟩) (by first | exact Kd.own_blk (Kd.R_ne HO_7.out BK154.out (by decide)) | (rw [add_block]; exact Kd.own_blk (Kd.R_ne HO_7.out BK154.out (by decide))) | (show (Addr.add _ _).block ≠ _; rw [add_block]; exact Kd.own_blk (Kd.R_ne HO_7.out BK154.out (by decide))) | (dsimp only; exact Kd.own_blk (Kd.R_ne HO_7.out BK154.out (by decide)))) _).trans (hHeld.1)))))))), ((cell_far (p := ⟨gb154, _, none⟩) (by first | exact Kd.own_blk (Kd.R_ne HO_7.out BK154.out (by decide)) | (rw [add_block]; exact Kd.own_blk (Kd.R_ne HO_7.out BK154.out (by decide))) | (show (Addr.add _ _).block ≠ _; rw [add_block]; exact Kd.own_blk (Kd.R_ne HO_7.out BK154.out (by decide))) | (dsimp only; exact Kd.own_blk (Kd.R_ne HO_7.out BK154.out (by decide)))) _).trans (((cell_far (p := ⟨gb154, _, none⟩) (by first | exact Kd.own_blk (Kd.R_ne HO_7.out BK154.out (by decide)) | (rw [add_block]; exact Kd.own_blk (Kd.R_ne HO_7.out BK154.out (by decide))) | (show (Addr.add _ _).block ≠ _; rw [add_block]; exact Kd.own_blk (Kd.R_ne HO_7.out BK154.out (by decide))) | (dsimp only; exact Kd.own_blk (Kd.R_ne HO_7.out BK154.out (by decide)))) _).trans (((cell_far (p := ⟨gb154, _, none⟩) (by first | exact Kd.own_blk (Kd.R_ne HO_7.out BK154.out (by decide)) | (rw [add_block]; exact Kd.own_blk (Kd.R_ne HO_7.out BK154.out (by decide))) | (show (Addr.add _ _).block ≠ _; rw [add_block]; exact Kd.own_blk (Kd.R_ne HO_7.out BK154.out (by decide))) | (dsimp only; exact Kd.own_blk (Kd.R_ne HO_7.out BK154.out (by decide)))) _).trans (((cell_far (p := ⟨gb154, _, none⟩) (by first | exact Kd.own_blk (Kd.R_ne HO_7.out BK154.out (by decide)) | (rw [add_block]; exact Kd.own_blk (Kd.R_ne HO_7.out BK154.out (by decide))) | (show (Addr.add _ _).block ≠ _; rw [add_block]; exact Kd.own_blk (Kd.R_ne HO_7.out BK154.out (by decide))) | (dsimp only; exact Kd.own_blk (Kd.R_ne HO_7.out BK154.out (by decide)))) _).trans (hHeld.2.1)))))))), ((cell_far (p := ⟨gb154, _, none⟩) (by first | exact Kd.own_blk (Kd.R_ne HO_7.out BK154.out (by decide)) | (rw [add_block]; exact Kd.own_blk (Kd.R_ne HO_7.out BK154.out (by decide))) | (show (Addr.add _ _).block ≠ _; rw [add_block]; exact Kd.own_blk (Kd.R_ne HO_7.out BK154.out (by decide))) | (dsimp only; exact Kd.own_blk (Kd.R_ne HO_7.out BK154.out (by decide)))) _).trans (((cell_far (p := ⟨gb154, _, none⟩) (by first | exact Kd.own_blk (Kd.R_ne HO_7.out BK154.out (by decide)) | (rw [add_block]; exact Kd.own_blk (Kd.R_ne HO_7.out BK154.out (by decide))) | (show (Addr.add _ _).block ≠ _; rw [add_block]; exact Kd.own_blk (Kd.R_ne HO_7.out BK154.out (by decide))) | (dsimp only; exact Kd.own_blk (Kd.R_ne HO_7.out BK154.out (by decide)))) _).trans (((cell_far (p := ⟨gb154, _, none⟩) (by first | exact Kd.own_blk (Kd.R_ne HO_7.out BK154.out (by decide)) | (rw [add_block]; exact Kd.own_blk (Kd.R_ne HO_7.out BK154.out (by decide))) | (show (Addr.add _ _).block ≠ _; rw [add_block]; exact Kd.own_blk (Kd.R_ne HO_7.out BK154.out (by decide))) | (dsimp only; exact Kd.own_blk (Kd.R_ne HO_7.out BK154.out (by decide)))) _).trans (((cell_far (p := ⟨gb154, _, none⟩) (by first | exact Kd.own_blk (Kd.R_ne HO_7.out BK154.out (by decide)) | (rw [add_block]; exact Kd.own_blk (Kd.R_ne HO_7.out BK154.out (by decide))) | (show (Addr.add _ _).block ≠ _; rw [add_block]; exact Kd.own_blk (Kd.R_ne HO_7.out BK154.out (by decide))) | (dsimp only; exact Kd.own_blk (Kd.R_ne HO_7.out BK154.out (by decide)))) _).trans (hHeld.2.2))))))))⟩ (fun hHeld => ?_)
          clear hK K
          refine dq ?_
          have hnb66 := NB154_137.out
          have hnc66 := NB137_154.out
          have hcz67_0 := bc BK154 0
          have hcz67_1 := bc BK154 1
          have hcz67_2 := bc BK154 2
          have hcz67_3 := bc BK154 3
          have hfz67_0 := bf BK154 0
          have hfz67_1 := bf BK154 1
          have hfz67_2 := bf BK154 2
          have hfz67_3 := bf BK154 3
          have hcz68_0 := bc BK137 0
          have hcz68_1 := bc BK137 1
          have hcz68_2 := bc BK137 2
          have hcz68_3 := bc BK137 3
          have hfz68_0 := bf BK137 0
          have hfz68_1 := bf BK137 1
          have hfz68_2 := bf BK137 2
          have hfz68_3 := bf BK137 3
          try go_wp2
          refine bodyPost_ret (results_ct rfl _ _ gb137 146 #[.string (rdOf ByteArray.empty t142 0), .string (rdOf ByteArray.empty t142 1), .string (rdOf ByteArray.empty t142 2), .slice none 0 0] (0, 0) _ rfl (by (with_reducible repeat (first | refine blk_drewN ?_ _ | refine blk_drew ?_ | refine blk_alloc ?_ _)); refine blk_put (cs := #[.string (rdOf ByteArray.empty t142 0), .string (rdOf ByteArray.empty t142 1), .string (rdOf ByteArray.empty t142 2), .slice none 0 0]) ?_ 3 _ rfl; (with_reducible repeat (first | refine blk_drewN ?_ _ | refine blk_drew ?_ | refine blk_alloc ?_ _)); refine blk_put (cs := #[.string (rdOf ByteArray.empty t142 0), .string (rdOf ByteArray.empty t142 1), .string (⟨#[]⟩ : ByteArray), .slice none 0 0]) ?_ 2 _ rfl; (with_reducible repeat (first | refine blk_drewN ?_ _ | refine blk_drew ?_ | refine blk_alloc ?_ _)); refine blk_put (cs := #[.string (rdOf ByteArray.empty t142 0), .string (⟨#[]⟩ : ByteArray), .string (⟨#[]⟩ : ByteArray), .slice none 0 0]) ?_ 1 _ rfl; (with_reducible repeat (first | refine blk_drewN ?_ _ | refine blk_drew ?_ | refine blk_alloc ?_ _)); refine blk_put (cs := #[.string (⟨#[]⟩ : ByteArray), .string (⟨#[]⟩ : ByteArray), .string (⟨#[]⟩ : ByteArray), .slice none 0 0]) ?_ 0 _ rfl; (with_reducible repeat (first | refine blk_drewN ?_ _ | refine blk_drew ?_ | refine blk_alloc ?_ _)); refine blk_far ?_ NB137_154.out _; (with_reducible repeat (first | refine blk_drewN ?_ _ | refine blk_drew ?_ | refine blk_alloc ?_ _)); refine blk_far ?_ NB137_154.out _; (with_reducible repeat (first | refine blk_drewN ?_ _ | refine blk_drew ?_ | refine blk_alloc ?_ _)); refine blk_far ?_ NB137_154.out _; (with_reducible repeat (first | refine blk_drewN ?_ _ | refine blk_drew ?_ | refine blk_alloc ?_ _)); refine blk_far ?_ NB137_154.out _; (with_reducible repeat (first | refine blk_drewN ?_ _ | refine blk_drew ?_ | refine blk_alloc ?_ _)); exact BK137.out) Tryz.underlying146 rfl (by kernel_rfl)) rfl ?_
          exact ⟨_, by first | rfl | (simp [errW_none, errW_some] <;> rfl) | (simp [*, errW_none, errW_some] <;> rfl), by first | exact Kd.R_nil _ _ _ _ _ | exact Kd.N_nil _ _ _ _ _ | exact Kd.V_nil _ _ _ _ _ | exact Kd.Q_nil _ _ _ _ _ | exact Kd.S_nil _ _ _ _ _, ba HB⟩
        ·rw [if_neg c33] at H
         exact absurd H (by simp)
       ·rw [if_neg c32] at H
        exact absurd H (by simp)
      ·rw [if_neg c31] at H
       exact absurd H (by simp)
  ·rw [if_neg c4] at H
   exact absurd H (by simp)
 ·replace c3 := Bool.eq_false_iff.mpr c3
  subst c3
  replace H := jf H
  simp only [Option.some.injEq, Prod.mk.injEq] at H
  obtain ⟨rfl, rfl, rfl, rfl, rfl⟩ := H
  go_enter Tryz.func150, Tryz.ntmps150
  go_wp2_with (first | ((with_reducible refine gate_dst (N := 2) rfl ?_); refine box_event ?hg (N := 2) ?hd (cs := #[.string (⟨#[]⟩ : ByteArray), .string (⟨#[]⟩ : ByteArray), .string (⟨#[]⟩ : ByteArray), .slice none 0 0]) (t := 146) ?hr ?_; (case hd => rfl); (case hg => rfl); (case hr => first | (go_simp; done) | (go_simp; rfl)); intro gb137 hg w69 hbox hb; have n0_ := bs HB hb; have n1_ := Aside0.mk (hbox); have n2_ := gz hg HB; have n3_ := gz hg HB; revert n0_ n1_ n2_ n3_; clear HB; intro HB BK137 GW137 GE137; clear hb hbox hg) | ((with_reducible refine gate_callee (f := 171) rfl ?_); refine gl 12 Tryz.func171 #[.string a0, .string (⟨#[118]⟩ : ByteArray)] ?_; (with_reducible refine (strings_HasPrefix.calls a0 (⟨#[118]⟩ : ByteArray) false _ A2.out).mono ?_); rintro e w' ⟨rfl, ⟨nd, rfl⟩⟩; refine ⟨_, rfl, ?_⟩; (try (rw [drewN_self w69]; generalize hq_ : World.drewN w69 _ = w69; have n0_ : Aside0 (w69.heap[gb137]? = some (.cells #[.string (⟨#[]⟩ : ByteArray), .string (⟨#[]⟩ : ByteArray), .string (⟨#[]⟩ : ByteArray), .slice none 0 0] 146 (0, 0))) := ⟨by rw [← hq_]; exact (bk BK137)⟩; have n1_ : Aside0 (Below w.heap.size w w69) := ⟨by rw [← hq_]; exact (ba HB)⟩; clear BK137 HB hq_; revert n0_ n1_; intro BK137 HB)); have hcz70_0 := bc BK137 0; have hcz70_1 := bc BK137 1; have hcz70_2 := bc BK137 2; have hcz70_3 := bc BK137 3; have hfz70_0 := bf BK137 0; have hfz70_1 := bf BK137 1; have hfz70_2 := bf BK137 2; have hfz70_3 := bf BK137 3))
  refine bodyPost_ret (results_ct rfl _ _ gb137 146 #[.string (⟨#[]⟩ : ByteArray), .string (⟨#[]⟩ : ByteArray), .string (⟨#[]⟩ : ByteArray), .slice none 0 0] (0, 0) _ rfl (by (with_reducible repeat (first | refine blk_drewN ?_ _ | refine blk_drew ?_ | refine blk_alloc ?_ _)); refine blk_put (cs := #[.string (⟨#[]⟩ : ByteArray), .string (⟨#[]⟩ : ByteArray), .string (⟨#[]⟩ : ByteArray), .slice none 0 0]) ?_ 3 _ rfl; (with_reducible repeat (first | refine blk_drewN ?_ _ | refine blk_drew ?_ | refine blk_alloc ?_ _)); refine blk_put (cs := #[.string (⟨#[]⟩ : ByteArray), .string (⟨#[]⟩ : ByteArray), .string (⟨#[]⟩ : ByteArray), .slice none 0 0]) ?_ 2 _ rfl; (with_reducible repeat (first | refine blk_drewN ?_ _ | refine blk_drew ?_ | refine blk_alloc ?_ _)); refine blk_put (cs := #[.string (⟨#[]⟩ : ByteArray), .string (⟨#[]⟩ : ByteArray), .string (⟨#[]⟩ : ByteArray), .slice none 0 0]) ?_ 1 _ rfl; (with_reducible repeat (first | refine blk_drewN ?_ _ | refine blk_drew ?_ | refine blk_alloc ?_ _)); refine blk_put (cs := #[.string (⟨#[]⟩ : ByteArray), .string (⟨#[]⟩ : ByteArray), .string (⟨#[]⟩ : ByteArray), .slice none 0 0]) ?_ 0 _ rfl; (with_reducible repeat (first | refine blk_drewN ?_ _ | refine blk_drew ?_ | refine blk_alloc ?_ _)); exact BK137.out) Tryz.underlying146 rfl (by kernel_rfl)) rfl ?_
  exact ⟨_, by first | rfl | (simp [errW_none, errW_some] <;> rfl) | (simp [*, errW_none, errW_some] <;> rfl), by first | exact Kd.R_nil _ _ _ _ _ | exact Kd.N_nil _ _ _ _ _ | exact Kd.V_nil _ _ _ _ _ | exact Kd.Q_nil _ _ _ _ _ | exact Kd.S_nil _ _ _ _ _, ba HB⟩
end Go.Proofs.YtjfcmkddeglghaaGreatDoor.G
end
section
namespace Go.Proofs.YtjfcmkddeglghaaGreatDoor.G
open Go.RowKit Go.Proofs.YtjfcmkddeglghaaGreatDoorW.PrintWords Go.Proofs.YtjfcmkddeglghaaGreatDoorW.PrintLast Go.Proofs.YtjfcmkddeglghaaGreatDoorW.PrintMore
attribute [local go_sem] max2_int min2_int max_two min_two max_three min_three max_four min_four
set_option linter.unusedVariables false
set_option linter.unusedSimpArgs false
def version_May.f (k : Nat) (a0 : ByteArray) : Option (Bool) := (version_Split.f k a0).bind fun bt160 => (some (bt160.2.2.2.2 == 0))
theorem version_May.mono : ∀ a0 k, LeO (version_May.f k a0) (version_May.f (k + 1) a0) := by
 intro a0 k
 unfold version_May.f
 repeat' first
   | (with_reducible exact version_Split.mono _ _)
   | (with_reducible exact LeO.refl _)
   | (with_reducible exact LeO.none _)
   | (with_reducible refine LeO.ite ?_ ?_)
   | (with_reducible refine LeO.bind ?_ (fun _ => ?_))
   | exact version_Split.mono _ _
   | exact LeO.none _
   | refine LeO.ite ?_ ?_
   | refine LeO.bind ?_ (fun _ => ?_)
set_option maxHeartbeats 8000000 in
set_option maxRecDepth 100000 in
theorem version_May.calls (k : Nat) (a0 : ByteArray) (r : Bool) (w : World) (h : version_May.f k a0 = some r) :
  Calls Tryz.prog 115 #[.string a0] w fun e w' => e = .returned (.bool r) ∧ Below w.heap.size w w' := by
 have hu146 := Tryz.underlying146
 have HB := Aside0.mk (Below.refl w.heap.size w)
 have H : ((version_Split.f k a0).bind fun bt160 => (some (bt160.2.2.2.2 == 0))) = some r := h
 clear h
 obtain ⟨⟨t160, t161, t162, t163, t166⟩, A2, H⟩ := bo H
 replace H : (some (t166 == 0)) = some r := H
 obtain rfl := Option.some.inj H
 go_enter Tryz.func115, Tryz.ntmps115
 go_wp2_with (first | ((with_reducible refine gate_callee (f := 150) rfl ?_); refine gl 7 Tryz.func150 #[.string a0] ?_; (with_reducible refine (version_Split.calls k a0 t160 t161 t162 t163 t166 _ A2.out).mono ?_); rintro e w3 ⟨v164, rfl, ho0, hb⟩; refine ⟨_, rfl, ?_⟩; have n0_ := Aside0.mk (Kd.R_lower ho0 (bz HB)); have n1_ := bs HB hb; revert n0_ n1_; clear HB; intro HO165 HB; (try clear hb); (try clear ho0)) | ((with_reducible refine gate_dst (N := 3) rfl ?_); refine box_event ?hg (N := 3) ?hd (cs := #[.string (⟨#[]⟩ : ByteArray), .string (⟨#[]⟩ : ByteArray), .string (⟨#[]⟩ : ByteArray), .slice none 0 0]) (t := 146) ?hr ?_; (case hd => rfl); (case hg => rfl); (case hr => first | (go_simp; done) | (go_simp; rfl)); intro gb167 hg w4 hbox hb; have n0_ := rb HO165 hb; have n1_ := bs HB hb; have n2_ := Aside0.mk (hbox); have n3_ := gz hg HB; have n4_ := gz hg HB; revert n0_ n1_ n2_ n3_ n4_; clear HO165 HB; intro HO165 HB BK167 GW167 GE167; clear hb hbox hg; have hcz5_0 := bc BK167 0; have hcz5_1 := bc BK167 1; have hcz5_2 := bc BK167 2; have hcz5_3 := bc BK167 3; have hfz5_0 := bf BK167 0; have hfz5_1 := bf BK167 1; have hfz5_2 := bf BK167 2; have hfz5_3 := bf BK167 3; obtain ⟨Ao6, co6, eo6⟩ := Kd.R_slice HO165.out; subst eo6))
 go_ret
 exact ⟨by first | rfl | (simp [errW_none, errW_some] <;> rfl) | (simp [*, errW_none, errW_some] <;> rfl), ba HB⟩
end Go.Proofs.YtjfcmkddeglghaaGreatDoor.G
end
section
namespace Go.Proofs.YtjfcmkddeglghaaGreatDoor.G
open Go.RowKit Go.Proofs.YtjfcmkddeglghaaGreatDoorW.PrintWords Go.Proofs.YtjfcmkddeglghaaGreatDoorW.PrintLast Go.Proofs.YtjfcmkddeglghaaGreatDoorW.PrintMore
attribute [local go_sem] max2_int min2_int max_two min_two max_three min_three max_four min_four
set_option linter.unusedVariables false
set_option linter.unusedSimpArgs false
def node_May.f (k : Nat) (a0_0 : ByteArray) (a0_1 : ByteArray) : Option (Bool) := (path_May.f k a0_0).bind fun t187 => (if t187 = true then ((version_May.f k a0_1).bind fun t188 => (some t188)) else (some false))
theorem node_May.mono : ∀ a0 a1 k, LeO (node_May.f k a0 a1) (node_May.f (k + 1) a0 a1) := by
 intro a0 a1 k
 unfold node_May.f
 repeat' first
   | (with_reducible exact path_May.mono _ _)
   | (with_reducible exact version_May.mono _ _)
   | (with_reducible exact LeO.refl _)
   | (with_reducible exact LeO.none _)
   | (with_reducible refine LeO.ite ?_ ?_)
   | (with_reducible refine LeO.bind ?_ (fun _ => ?_))
   | exact path_May.mono _ _
   | exact version_May.mono _ _
   | exact LeO.none _
   | refine LeO.ite ?_ ?_
   | refine LeO.bind ?_ (fun _ => ?_)
set_option maxHeartbeats 8000000 in
set_option maxRecDepth 100000 in
theorem node_May.calls (k : Nat) (a0_0 : ByteArray) (a0_1 : ByteArray) (r : Bool) (w : World) (h : node_May.f k a0_0 a0_1 = some r) :
  Calls Tryz.prog 76 #[.agg #[.string a0_0, .string a0_1]] w fun e w' => e = .returned (.bool r) ∧ Below w.heap.size w w' := by
 have hu24 := Tryz.underlying24
 have HB := Aside0.mk (Below.refl w.heap.size w)
 have H : ((path_May.f k a0_0).bind fun t187 => (if t187 = true then ((version_May.f k a0_1).bind fun t188 => (some t188)) else (some false))) = some r := h
 clear h
 obtain ⟨t187, A2, H⟩ := bo H
 by_cases c3 : t187 = true
 ·subst c3
  replace H := it H
  obtain ⟨t188, A4, H⟩ := bo H
  obtain rfl := Option.some.inj H
  go_enter Tryz.func76, Tryz.ntmps76
  go_wp2_with (first | ((with_reducible refine gate_dst (N := 1) rfl ?_); refine box_event ?hg (N := 1) ?hd (cs := #[.string a0_0, .string a0_1]) (t := 24) ?hr ?_; (case hd => rfl); (case hg => rfl); (case hr => first | (go_simp; done) | (go_simp; rfl)); intro gb186 hg w5 hbox hb; have n0_ := bs HB hb; have n1_ := Aside0.mk (hbox); have n2_ := gz hg HB; have n3_ := gz hg HB; revert n0_ n1_ n2_ n3_; clear HB; intro HB BK186 GW186 GE186; clear hb hbox hg; have hcz6_0 := bc BK186 0; have hcz6_1 := bc BK186 1; have hfz6_0 := bf BK186 0; have hfz6_1 := bf BK186 1) | ((with_reducible refine gate_callee (f := 92) rfl ?_); refine gl 5 Tryz.func92 #[.string a0_0] ?_; (with_reducible refine (path_May.calls k a0_0 true _ A2.out).mono ?_); rintro e w7 ⟨rfl, hb⟩; refine ⟨_, rfl, ?_⟩; have n0_ := bb BK186 hb; have n1_ := bs HB hb; revert n0_ n1_; clear BK186 HB; intro BK186 HB; (try clear hb); have hcz8_0 := bc BK186 0; have hcz8_1 := bc BK186 1; have hfz8_0 := bf BK186 0; have hfz8_1 := bf BK186 1) | (go_at_call 115; (with_reducible refine (version_May.calls k a0_1 t188 _ A4.out).mono ?_); rintro e w9 ⟨rfl, hb⟩; have n0_ := bb BK186 hb; have n1_ := bs HB hb; revert n0_ n1_; clear BK186 HB; intro BK186 HB; (try clear hb)))
  go_ret
  exact ⟨by first | rfl | (simp [errW_none, errW_some] <;> rfl) | (simp [*, errW_none, errW_some] <;> rfl), ba HB⟩
 ·replace c3 := Bool.eq_false_iff.mpr c3
  subst c3
  replace H := jf H
  obtain rfl := Option.some.inj H
  go_enter Tryz.func76, Tryz.ntmps76
  go_wp2_with (first | ((with_reducible refine gate_dst (N := 1) rfl ?_); refine box_event ?hg (N := 1) ?hd (cs := #[.string a0_0, .string a0_1]) (t := 24) ?hr ?_; (case hd => rfl); (case hg => rfl); (case hr => first | (go_simp; done) | (go_simp; rfl)); intro gb186 hg w10 hbox hb; have n0_ := bs HB hb; have n1_ := Aside0.mk (hbox); have n2_ := gz hg HB; have n3_ := gz hg HB; revert n0_ n1_ n2_ n3_; clear HB; intro HB BK186 GW186 GE186; clear hb hbox hg; have hcz11_0 := bc BK186 0; have hcz11_1 := bc BK186 1; have hfz11_0 := bf BK186 0; have hfz11_1 := bf BK186 1) | ((with_reducible refine gate_callee (f := 92) rfl ?_); refine gl 5 Tryz.func92 #[.string a0_0] ?_; (with_reducible refine (path_May.calls k a0_0 false _ A2.out).mono ?_); rintro e w12 ⟨rfl, hb⟩; refine ⟨_, rfl, ?_⟩; have n0_ := bb BK186 hb; have n1_ := bs HB hb; revert n0_ n1_; clear BK186 HB; intro BK186 HB; (try clear hb)))
  go_ret
  exact ⟨by first | rfl | (simp [errW_none, errW_some] <;> rfl) | (simp [*, errW_none, errW_some] <;> rfl), ba HB⟩
end Go.Proofs.YtjfcmkddeglghaaGreatDoor.G
end
section
namespace Go.Proofs.YtjfcmkddeglghaaGreatDoor.G
open Go.RowKit Gw Go.Proofs.YtjfcmkddeglghaaGreatDoorW.PrintWords Go.Proofs.YtjfcmkddeglghaaGreatDoorW.PrintLast
set_option linter.unusedVariables false
set_option linter.unusedSimpArgs false
theorem stringslite_Index_ev (l : Str) (c : UInt8) (h : l.length ≤ 9223372036854775807) : stringslite_Index.f (ofL l) (ofL [c]) = some (Lib.indexByte l c) := by
  unfold stringslite_Index.f
  rw [if_pos ⟨rfl, h⟩, bt_ofL]
  simp
theorem strings_Cut_ev (l : Str) (c : UInt8) (h : l.length ≤ 9223372036854775806) :
    strings_Cut.f (ofL l) (ofL [c]) = some (ofL (l.takeWhile (· != c)), ofL (l.dropWhile (· != c)).tail, decide (c ∈ l)) := by
  unfold strings_Cut.f stringslite_Cut.f
  rw [stringslite_Index_ev l c (by omega)]
  simp only [Option.bind_some]
  by_cases hc : c ∈ l
  · obtain ⟨h1, h2, h3⟩ := index_split c l hc
    have hlen := congrArg List.length h2
    simp only [List.length_append, List.length_cons] at hlen
    rw [h1]
    generalize l.takeWhile (· != c) = p at *
    generalize (l.dropWhile (· != c)).tail = q at *
    have e1 : (ofL [c]).size = 1 := rfl
    have e2 : (ofL l).size = l.length := rfl
    rw [e1, e2, w64 (by omega) (by omega)]
    rw [if_pos (by omega), if_pos (by omega), if_pos (by omega), if_pos (by omega), if_pos (by omega)]
    simp only [Option.bind_some, extract_ofL]
    have e3 : ((p.length : Int)).toNat = p.length := by omega
    have e4 : ((p.length : Int) + ((1 : Nat) : Int)).toNat = p.length + 1 := by omega
    rw [e3, e4]
    have e5 : (l.drop 0).take (p.length - 0) = p := by rw [h2]; simp
    have e6 : (l.drop (p.length + 1)).take (l.length - (p.length + 1)) = q := by
      rw [h2]
      simp
      exact List.take_of_length_le (by omega)
    rw [e5, e6, decide_eq_true hc]
  · obtain ⟨h1, h2, h3⟩ := index_none c l hc
    rw [h1, if_neg (by omega), h2, h3, decide_eq_false hc]
    rfl
end Go.Proofs.YtjfcmkddeglghaaGreatDoor.G
end
section
namespace Go.Proofs.YtjfcmkddeglghaaGreatDoor.G
open Go.RowKit Gw Go.Proofs.YtjfcmkddeglghaaGreatDoorW.PrintWords Go.Proofs.YtjfcmkddeglghaaGreatDoorW.PrintLast Go.Proofs.YtjfcmkddeglghaaGreatDoorW.PrintMore
set_option linter.unusedVariables false
set_option linter.unusedSimpArgs false
theorem octEl_eq (c : UInt8) : octEl c = (isDigit c || isLetter c || isMark c) := by
  have := u8_all (fun c => octEl c == (isDigit c || isLetter c || isMark c)) (by decide +kernel) c
  simpa using this
theorem cls_digit (c : UInt8) : ([1] : List Int).contains ((octClass c : Nat) : Int) = isDigit c := by
  have := u8_all (fun c => ([1] : List Int).contains ((octClass c : Nat) : Int) == isDigit c) (by decide +kernel) c
  simpa using this
theorem cls_word (c : UInt8) : (([1, 2, 3] : List Int).contains ((octClass c : Nat) : Int) && !markL.contains c) = (isDigit c || isLetter c || c == 45) := by
  have := u8_all (fun c => (([1, 2, 3] : List Int).contains ((octClass c : Nat) : Int) && !markL.contains c) == (isDigit c || isLetter c || c == 45)) (by decide +kernel) c
  simpa using this
theorem all_digit (l : Str) : octAll l [1] = l.all isDigit := by
  unfold octAll
  congr 1
  funext c
  exact cls_digit c
theorem containsAny_eq (l ch : Str) : Lib.containsAny l ch = l.any ch.contains := by
  unfold Lib.containsAny
  induction l with
  | nil => rfl
  | cons b l ih =>
    have hg := Lib.indexAny_ge ch l
    rw [List.any_cons, Lib.indexAny]
    cases h : ch.contains b
    · simp only [Bool.false_eq_true, if_false, Bool.false_or]
      rw [← ih]
      by_cases h1 : Lib.indexAny l ch = -1
      · rw [h1]; rfl
      · have : (Lib.indexAny l ch == -1) = false := by simpa using h1
        rw [this]
        simp only [Bool.false_eq_true, if_false]
        congr 1
        apply propext
        omega
    · simp
theorem octet_All_ev (l : Str) (of : List Int) (h : Sz l) : octet_All.f (ofL l) of = some (octAll l of) := by
  unfold octet_All.f
  rw [if_pos (by rw [size_ofL]; omega)]
theorem octet_Parts_ev (l : Str) (c : UInt8) (h : Sz l) : octet_Parts.f (ofL l) (c.toNat : Int) = some ((parts c l).map ofL) := by
  unfold octet_Parts.f
  have e : strOfNums [(c.toNat : Int)] = ofL [c] := by
    apply ext_data
    simp [strOfNums, ofL]
  have e2 : strings_Split.f (ofL l) (ofL [c]) = some ((parts c l).map ofL) := by
    unfold strings_Split.f
    have h1 : (ofL [c]).size = 1 := rfl
    rw [if_pos ⟨h1, by rw [size_ofL]; exact h⟩, bt_ofL]
    simp
  rw [e, e2]
  rfl
theorem elemB_eq (s : Str) : elemB s = elemMay s := by
  unfold elemB elemMay
  have : (fun c => octEl c) = (fun c => isDigit c || isLetter c || isMark c) := funext octEl_eq
  show (_ && s.all (fun c => octEl c)) = _
  rw [this]
theorem path_element_ev (s : Str) (h : Sz s) : path_element.f (ofL s) = some (elemMay s) := by
  unfold path_element.f
  rw [if_pos (by rw [size_ofL]; omega), ← elemB_eq]
theorem path_Elements_loop (x4 : List ByteArray) (L : List Str) (hL : ∀ s ∈ L, Sz s) (hl : L.length < 9223372036854775807) : ∀ n i, i + n = L.length →
    Ev (fun k => path_Elements.l0 k x4 (L.map ofL) (L.length : Int) (i : Int)) (if (L.drop i).all elemMay then (x4, 0) else ([], 1)) := by
  intro n
  induction n with
  | zero =>
    intro i hi
    refine Ev.succ ?_
    simp only [path_Elements.l0]
    refine Ev.neg (by omega) (Ev.some_eq ?_)
    rw [List.drop_of_length_le (by omega)]
    rfl
  | succ n ih =>
    intro i hi
    have hil : i < L.length := by omega
    refine Ev.succ ?_
    simp only [path_Elements.l0]
    refine Ev.pos (by omega) (Ev.pos (by omega) (Ev.pos (by rw [List.length_map]; omega) ?_))
    rw [rdOf_at _ _ _ (by rw [List.length_map]; exact hil), List.getElem_map, drop_at _ _ hil, List.all_cons]
    refine Ev.bindc (path_element_ev _ (hL _ (List.getElem_mem hil))) ?_
    cases he : elemMay L[i]
    · exact Ev.neg (by simp) (Ev.some_eq (by simp))
    · refine Ev.pos rfl ?_
      rw [w64n i (by omega), Bool.true_and]
      exact ih (i + 1) (by omega)
theorem parts_sz (c : UInt8) (p : Str) (h : Sz p) : ∀ s ∈ parts c p, Sz s := fun s hs => by
  have := parts_mem_le c p s hs
  unfold Sz at *; omega
theorem path_Elements_ev (p : Str) (h : Sz p) : Ev (fun k => path_Elements.f k (ofL p)) (if pathMay p then ((parts 47 p).map ofL, 0) else ([], 1)) := by
  unfold path_Elements.f
  refine Ev.bindc (octet_Parts_ev p 47 h) ?_
  have := parts_len 47 p
  have h2 := path_Elements_loop ((parts 47 p).map ofL) (parts 47 p) (parts_sz 47 p h) (by unfold Sz at h; omega) _ 0 (Nat.zero_add _)
  rw [List.length_map]
  exact h2
theorem path_May_ev (p : Str) (h : Sz p) : Ev (fun k => path_May.f k (ofL p)) (pathMay p) := by
  unfold path_May.f
  refine Ev.bind (path_Elements_ev p h) (Ev.some_eq ?_)
  cases pathMay p <;> rfl
theorem number_May_ev (s : Str) (h : Sz s) : number_May.f (ofL s) = some (numMay s) := by
  unfold number_May.f
  rw [toList_ofL]
  cases s with
  | nil => rfl
  | cons c s =>
    rw [if_neg (by simp), octet_All_ev _ _ h, all_digit]
    unfold numMay
    simp only [Option.bind_some]
    cases hd : (c :: s).all isDigit
    · simp
    · rw [if_pos rfl, if_pos (by rw [size_ofL]; simp), bt_ofL, size_ofL]
      by_cases hc : c = 48
      · subst hc
        have e48 : ((48 : UInt8).toNat : Int) = 48 := rfl
        rw [if_pos e48]
        cases s <;> simp
        omega
      · have : ¬ (c.toNat : Int) = 48 := fun e => hc (UInt8.toNat_inj.1 (by show c.toNat = 48; omega))
        rw [if_neg this]
        cases s <;> simp [hc]
theorem word_split (s : Str) : (octAll s [1, 2, 3] && !Lib.containsAny s markL) = s.all (fun c => isDigit c || isLetter c || c == 45) := by
  rw [containsAny_eq]
  unfold octAll
  induction s with
  | nil => rfl
  | cons b s ih =>
    rw [List.all_cons, List.all_cons, List.any_cons, ← ih, ← cls_word b, Bool.not_or]
    cases ([1, 2, 3] : List Int).contains ((octClass b : Nat) : Int) <;> cases markL.contains b <;> simp
theorem version_word_ev (s : Str) (h : Sz s) : Ev (fun k => version_word.f k (ofL s)) (wordMay s) := by
  unfold version_word.f
  have hj : ∀ b, Ev (fun k => version_word.j0 k (ofL s) b) (!b && (numMay s || !s.all isDigit)) := by
    intro b
    refine Ev.succ ?_
    simp only [version_word.j0]
    cases b
    · refine Ev.neg (by simp) (Ev.bindc (number_May_ev s h) ?_)
      cases hn : numMay s
      · refine Ev.neg (by simp) (Ev.bindc (octet_All_ev s _ h) (Ev.some_eq ?_))
        rw [all_digit]; simp
      · exact Ev.pos rfl (Ev.some_eq (by simp))
    · exact Ev.pos rfl (Ev.some_eq (by simp))
  rw [toList_ofL]
  have hw := word_split s
  by_cases hs : s = []
  · subst hs
    exact Ev.pos rfl (Ev.val (hj true) rfl)
  · have hs' : (s != []) = true := by simpa using hs
    have hc : strings_ContainsAny.f (ofL s) ⟨#[46, 95, 126]⟩ = some (Lib.containsAny s markL) := by
      unfold strings_ContainsAny.f
      rw [if_pos ⟨rfl, by rw [size_ofL]; exact h⟩]
    refine Ev.neg hs (Ev.bindc hc ?_)
    unfold wordMay
    rw [hs', ← hw]
    cases Lib.containsAny s markL
    · refine Ev.neg (by simp) (Ev.bindc (octet_All_ev s _ h) (Ev.val (hj _) ?_))
      simp
    · exact Ev.pos rfl (Ev.val (hj true) (by simp))
def verOut : Option Ver → ByteArray × ByteArray × ByteArray × List ByteArray × Int
  | some v => (ofL v.major, ofL v.minor, ofL v.patch, v.pre.map ofL, 0)
  | none => (⟨#[]⟩, ⟨#[]⟩, ⟨#[]⟩, [], 1)
theorem hasPrefix_ev (s : Str) (c : UInt8) (h : Sz s) : strings_HasPrefix.f (ofL s) (ofL [c]) = some (s.head? == some c) := by
  have e1 : (ofL [c]).size = 1 := rfl
  unfold strings_HasPrefix.f stringslite_HasPrefix.f
  rw [e1, size_ofL]
  cases s with
  | nil => rfl
  | cons b s =>
    rw [if_pos (by simp; omega), if_pos (by omega), if_pos (by simp; omega), extract_ofL, toList_ofL, toList_ofL]
    have : (((1 : Nat) : Int)).toNat = 1 := rfl
    rw [this]
    simp
theorem version_Split_loop (L : List Str) (a b c : ByteArray) (d : List ByteArray) (hL : ∀ s ∈ L, Sz s) (hl : L.length < 9223372036854775807) : ∀ n i, i + n = L.length →
    Ev (fun k => version_Split.l0 k (L.map ofL) (L.length : Int) (i : Int) a b c d) (if (L.drop i).all wordMay then (a, b, c, d, 0) else verOut none) := by
  intro n
  induction n with
  | zero =>
    intro i hi
    refine Ev.succ ?_
    simp only [version_Split.l0]
    refine Ev.neg (by omega) (Ev.some_eq ?_)
    rw [List.drop_of_length_le (by omega)]
    rfl
  | succ n ih =>
    intro i hi
    have hil : i < L.length := by omega
    refine Ev.succ ?_
    simp only [version_Split.l0]
    refine Ev.pos (by omega) (Ev.pos (by omega) (Ev.pos (by rw [List.length_map]; omega) ?_))
    rw [rdOf_at _ _ _ (by rw [List.length_map]; exact hil), List.getElem_map, drop_at _ _ hil, List.all_cons]
    refine Ev.bind (version_word_ev _ (hL _ (List.getElem_mem hil))) ?_
    cases he : wordMay L[i]
    · exact Ev.neg (by simp) (Ev.some_eq (by simp [verOut]))
    · refine Ev.pos rfl ?_
      rw [w64n i (by omega), Bool.true_and]
      exact ih (i + 1) (by omega)
theorem version_Split_no (x5 : ByteArray) (x6 : Bool) (L : List ByteArray) : Ev (fun k => version_Split.j0 k x5 x6 L true) (verOut none) := by
  refine Ev.succ ?_
  simp only [version_Split.j0]
  exact Ev.pos (by simp) (Ev.some_ _)
theorem dropWhile_mem (c : UInt8) (r : Str) : decide (c ∈ r) = !(r.dropWhile (· != c)).isEmpty := by
  by_cases h : c ∈ r
  · obtain ⟨_, _, h3⟩ := index_split c r h
    rw [h3, decide_eq_true h]; rfl
  · obtain ⟨_, _, h3⟩ := index_none c r h
    rw [h3, decide_eq_false h]; rfl
theorem version_Split_ev (s : Str) (h : Sz s) : Ev (fun k => version_Split.f k (ofL s)) (verOut (verSplit s)) := by
  unfold version_Split.f
  have hp := hasPrefix_ev s 118 h
  refine Ev.bindc hp ?_
  cases s with
  | nil => exact Ev.neg (by simp) (Ev.some_ _)
  | cons c r =>
    by_cases hc : c = 118
    · subst hc
      refine Ev.pos (by simp) (Ev.pos (by rw [size_ofL, List.length_cons]; omega) ?_)
      have hr : Sz r := by unfold Sz at *; simp at h; omega
      have ex : (ofL (118 :: r)).extract 1 (ofL (118 :: r)).size = ofL r := by
        rw [extract_ofL, size_ofL]; simp
      rw [ex]
      refine Ev.bindc (strings_Cut_ev r 45 (by unfold Sz at hr; omega)) ?_
      simp only
      have ht : Sz (r.takeWhile (· != 45)) := by
        have := (List.takeWhile_sublist (fun x : UInt8 => x != 45) (l := r)).length_le
        unfold Sz at *; omega
      have hd : (r.dropWhile (· != 45)).length ≤ r.length := (List.dropWhile_sublist (fun x : UInt8 => x != 45) (l := r)).length_le
      refine Ev.bindc (octet_Parts_ev _ 46 ht) ?_
      have hsz := parts_sz 46 _ ht
      have hv : verSplit (118 :: r) = match parts 46 (r.takeWhile (· != 45)) with
        | [a, b, c] => if numMay a && numMay b && numMay c then (match r.dropWhile (· != 45) with
            | [] => some ⟨a, b, c, []⟩
            | _ :: q => if (parts 46 q).all wordMay then some ⟨a, b, c, parts 46 q⟩ else none) else none
        | _ => none := rfl
      rw [hv, dropWhile_mem]
      clear hv
      generalize parts 46 (r.takeWhile (· != 45)) = P at hsz ⊢
      generalize r.dropWhile (· != 45) = D at hd ⊢
      have hno : ∀ x6 L, Ev (fun k => version_Split.j0 k (ofL D.tail) x6 L true) (verOut none) := fun x6 L => version_Split_no _ x6 L
      match P, hsz with
      | [], _ => exact Ev.neg (by simp) (hno _ _)
      | [_], _ => exact Ev.neg (by simp) (hno _ _)
      | [_, _], _ => exact Ev.neg (by simp) (hno _ _)
      | _ :: _ :: _ :: _ :: _, _ => exact Ev.neg (by simp; omega) (hno _ _)
      | [a, b, c], hsz =>
        have ha : Sz a := hsz a (by simp)
        have hb : Sz b := hsz b (by simp)
        have hc : Sz c := hsz c (by simp)
        show Ev _ (verOut (if (numMay a && numMay b && numMay c) = true then (match (generalizing := false) D with
            | [] => some ⟨a, b, c, []⟩
            | _ :: q => if (parts 46 q).all wordMay then some ⟨a, b, c, parts 46 q⟩ else none) else none))
        have r0 : rdOf ByteArray.empty ([a, b, c].map ofL) 0 = ofL a := rfl
        have r1 : rdOf ByteArray.empty ([a, b, c].map ofL) 1 = ofL b := rfl
        have r2 : rdOf ByteArray.empty ([a, b, c].map ofL) 2 = ofL c := rfl
        refine Ev.pos (by simp) (Ev.pos (by simp) ?_)
        rw [r0]
        refine Ev.bindc (number_May_ev a ha) ?_
        cases numMay a
        · exact Ev.neg (by simp) (Ev.val (hno _ _) (by simp))
        refine Ev.pos rfl (Ev.pos (by simp) ?_)
        rw [r1]
        refine Ev.bindc (number_May_ev b hb) ?_
        cases numMay b
        · exact Ev.neg (by simp) (Ev.val (hno _ _) (by simp))
        refine Ev.pos rfl (Ev.pos (by simp) ?_)
        rw [r2]
        refine Ev.bindc (number_May_ev c hc) ?_
        cases numMay c
        · exact Ev.val (hno _ _) (by simp)
        simp only [Bool.and_self, if_true, Bool.not_true]
        refine Ev.succ ?_
        simp only [version_Split.j0]
        refine Ev.neg (by simp) (Ev.pos (by simp) (Ev.pos (by simp) (Ev.pos (by simp) ?_)))
        rw [r0, r1, r2]
        cases D with
        | nil => exact Ev.neg (by simp) (Ev.some_ _)
        | cons x q =>
          refine Ev.pos (by simp) ?_
          have hq : Sz q := by unfold Sz at *; simp at hd; omega
          refine Ev.bindc (octet_Parts_ev q 46 hq) ?_
          have := parts_len 46 q
          have h2 := version_Split_loop (parts 46 q) (ofL a) (ofL b) (ofL c) ((parts 46 q).map ofL) (parts_sz 46 q hq) (by unfold Sz at hq; omega) _ 0 (Nat.zero_add _)
          rw [List.length_map]
          refine Ev.val h2 ?_
          rw [List.drop_zero]
          show _ = verOut (if (parts 46 q).all wordMay = true then some ⟨a, b, c, parts 46 q⟩ else none)
          cases (parts 46 q).all wordMay <;> rfl
    · have : ((c :: r).head? == some 118) = false := by simpa using hc
      rw [this]
      refine Ev.neg (by simp) (Ev.some_eq ?_)
      have : verSplit (c :: r) = none := by
        unfold verSplit
        split
        · rename_i e; injection e with e1 _; exact absurd e1 hc
        · rfl
      rw [this]; rfl
theorem version_May_ev (s : Str) (h : Sz s) : Ev (fun k => version_May.f k (ofL s)) (verMay s) := by
  unfold version_May.f
  refine Ev.bind (version_Split_ev s h) (Ev.some_eq ?_)
  unfold verMay
  cases verSplit s <;> rfl
theorem node_May_ev (p v : Str) (hp : Sz p) (hv : Sz v) : Ev (fun k => node_May.f k (ofL p) (ofL v)) (ndMay (p, v)) := by
  unfold node_May.f
  refine Ev.bind (path_May_ev p hp) ?_
  unfold ndMay
  cases pathMay p
  · exact Ev.neg (by simp) (Ev.some_ _)
  · refine Ev.pos rfl (Ev.bind (version_May_ev v hv) (Ev.some_ _))
end Go.Proofs.YtjfcmkddeglghaaGreatDoor.G
end
section
namespace Go.Proofs.YtjfcmkddeglghaaGreatDoor.G
open Go.RowKit Gw Go.Proofs.YtjfcmkddeglghaaGreatDoorW.PrintWords Go.Proofs.YtjfcmkddeglghaaGreatDoorW.PrintLast Go.Proofs.YtjfcmkddeglghaaGreatDoorW.PrintMore
set_option linter.unusedVariables false
set_option linter.unusedSimpArgs false
abbrev SNode := S24
abbrev SNeed := S49
def ndOf (x : SNode) : Nd := (x.f0.data.toList, x.f1.data.toList)
def okNode (x : SNode) : Bool := decide (x.f0.size < 4294967281) && decide (x.f1.size < 4294967281)
def mayN (x : SNode) : Bool := ndMay (ndOf x)
def nzN (x : SNode) : Bool := !(x.f0.toList == []) || !(x.f1.toList == [])
def okNeed (x : SNeed) : Bool := okNode x.f0 && okNode x.f1
def badNeed (x : SNeed) : Bool := !mayN x.f1 || nzN x.f0 && !mayN x.f0
theorem node_May_calls (x : SNode) (w : World) (h : okNode x = true) :
    Calls Tryz.prog 76 #[.agg #[.string x.f0, .string x.f1]] w fun e w' => e = .returned (.bool (mayN x)) ∧ Below w.heap.size w w' := by
  unfold okNode at h
  simp only [Bool.and_eq_true, decide_eq_true_eq] at h
  obtain ⟨p, v⟩ := x
  obtain ⟨k, hk⟩ := (node_May_ev p.data.toList v.data.toList (by rw [size_data] at h; exact h.1) (by rw [size_data v] at h; exact h.2)).get
  simp only [ofL_self] at hk
  exact node_May.calls k p v _ w hk
set_option maxHeartbeats 1000000 in
set_option maxRecDepth 1000000 in
theorem lack_Check1_calls (x : SNeed) (g : Nat) (w : World) (h : okNeed x = true) (hg : w.heap[g]? = some (.cells #[.string ⟨#[]⟩, .string ⟨#[]⟩] 24 (0, 0))) :
    Calls Tryz.prog 110 #[.agg #[.string x.f0.f0, .string x.f0.f1, .string x.f1.f0, .string x.f1.f1], .pointer (some ⟨g, 0, none⟩)] w fun e w' => e = .returned (.bool (badNeed x)) ∧ Below w.heap.size w w' := by
  have hu24 := Tryz.underlying24
  unfold okNeed at h
  simp only [Bool.and_eq_true] at h
  obtain ⟨h0, h1⟩ := h
  have hm1 := fun w => node_May_calls x.f1 w h1
  have hm0 := fun w => node_May_calls x.f0 w h0
  have hlt : g < w.heap.size := (Array.getElem?_eq_some_iff.1 hg).1
  have hc : ∀ w1, Below w.heap.size w w1 → w1.cell? ⟨g, 0, none⟩ = some (.string ⟨#[]⟩) ∧ w1.cell? ⟨g, 1, none⟩ = some (.string ⟨#[]⟩) := by
    intro w1 hb
    have hg1 := (hb.block g hlt).trans hg
    exact ⟨cell_of_row _ _ _ _ _ _ hg1, cell_of_row _ _ _ _ _ _ hg1⟩
  obtain ⟨⟨a, b⟩, ⟨c, d⟩⟩ := x
  unfold badNeed
  have step : ∀ (o : Obj) (w1 : World), Below (w.alloc o).heap.size (w.alloc o) w1 → Below w.heap.size w w1 := fun o w1 hb => below_then ((Below.refl _ _).alloc (Nat.le_refl _) _) (by simp) hb
  have STEP := Aside0.mk step
  have HC := Aside0.mk hc
  clear step hc hg
  cases ht : mayN ⟨c, d⟩
  · simp only at hm1
    rw [ht] at hm1
    go_enter Tryz.func110, Tryz.ntmps110
    go_wp2_with (go_at_call 76; (with_reducible refine (hm1 _).mono ?_); rintro e w' ⟨rfl, hb⟩)
    go_ret
    exact ⟨rfl, STEP.out _ _ hb⟩
  · simp only at hm1
    rw [ht] at hm1
    simp only at hm0
    by_cases ha : a.toList = []
    · have ha' : (a.toList == []) = true := by rw [ha]; rfl
      by_cases hb : b.toList = []
      · have hb' : (b.toList == []) = true := by rw [hb]; rfl
        have hz : nzN ⟨a, b⟩ = false := by unfold nzN; simp only [ha', hb']; rfl
        rw [hz]
        go_enter Tryz.func110, Tryz.ntmps110
        go_wp2_with (first | (go_at_call 76; (with_reducible refine (hm1 _).mono ?_); rintro e w' ⟨rfl, hb⟩; have HB := Aside0.mk (STEP.out _ _ hb); obtain ⟨k0, k1⟩ := HC.out _ HB.out; have hn := (hb.block w.heap.size (by simp)).trans (heap_alloc_new w _); have m0 := cell_of_row w' w.heap.size 0 _ _ _ hn; have m1 := cell_of_row w' w.heap.size 1 _ _ _ hn; simp only [List.getElem?_toArray, List.getElem?_cons_zero, List.getElem?_cons_succ] at m0 m1; clear hb hn) | (go_at_call 76; (with_reducible refine (hm0 _).mono ?_); rintro e w2 ⟨rfl, hb2⟩))
        go_ret
        exact ⟨rfl, HB.out⟩
      · have hb' : (b.toList == []) = false := by simpa using hb
        have hz : nzN ⟨a, b⟩ = true := by unfold nzN; simp only [ha', hb']; rfl
        rw [hz]
        go_enter Tryz.func110, Tryz.ntmps110
        go_wp2_with (first | (go_at_call 76; (with_reducible refine (hm1 _).mono ?_); rintro e w' ⟨rfl, hb⟩; have HB := Aside0.mk (STEP.out _ _ hb); obtain ⟨k0, k1⟩ := HC.out _ HB.out; have hn := (hb.block w.heap.size (by simp)).trans (heap_alloc_new w _); have m0 := cell_of_row w' w.heap.size 0 _ _ _ hn; have m1 := cell_of_row w' w.heap.size 1 _ _ _ hn; simp only [List.getElem?_toArray, List.getElem?_cons_zero, List.getElem?_cons_succ] at m0 m1; clear hb hn) | (go_at_call 76; (with_reducible refine (hm0 _).mono ?_); rintro e w2 ⟨rfl, hb2⟩))
        go_ret
        exact ⟨rfl, below_then HB.out HB.out.size hb2⟩
    · have ha' : (a.toList == []) = false := by simpa using ha
      have hz : nzN ⟨a, b⟩ = true := by unfold nzN; simp only [ha']; rfl
      rw [hz]
      go_enter Tryz.func110, Tryz.ntmps110
      go_wp2_with (first | (go_at_call 76; (with_reducible refine (hm1 _).mono ?_); rintro e w' ⟨rfl, hb⟩; have HB := Aside0.mk (STEP.out _ _ hb); obtain ⟨k0, k1⟩ := HC.out _ HB.out; have hn := (hb.block w.heap.size (by simp)).trans (heap_alloc_new w _); have m0 := cell_of_row w' w.heap.size 0 _ _ _ hn; have m1 := cell_of_row w' w.heap.size 1 _ _ _ hn; simp only [List.getElem?_toArray, List.getElem?_cons_zero, List.getElem?_cons_succ] at m0 m1; clear hb hn) | (go_at_call 76; (with_reducible refine (hm0 _).mono ?_); rintro e w2 ⟨rfl, hb2⟩))
      go_ret
      exact ⟨rfl, below_then HB.out HB.out.size hb2⟩
def IdxPost (b : Bool) (w : World) (e : Ending) (w' : World) : Prop := ∃ z : Int, e = .returned (.int .i64 z) ∧ decide (0 ≤ z) = b ∧ Below w.heap.size w w'
set_option maxHeartbeats 1000000 in
set_option maxRecDepth 1000000 in
theorem indexNeed_calls (A : Option Addr) (c : Nat) (l : List SNeed) (g : Nat) (w : World) (hr : Kd.C k49 w A l.length l) (hok : ∀ x ∈ l, okNeed x = true) (hg : w.heap[g]? = some (.cells #[.string ⟨#[]⟩, .string ⟨#[]⟩] 24 (0, 0))) :
    Calls Tryz.prog 138 #[.slice A l.length c, .func (.func 110) #[] #[.pointer (some ⟨g, 0, none⟩)]] w (IdxPost (l.any badNeed) w) := by
  have HR := Aside0.mk hr
  have hlen : l.length ≤ 9223372036854775807 := hr.2.1
  have HO := Aside0.mk hok
  have hglt : g < w.heap.size := (Array.getElem?_eq_some_iff.1 hg).1
  have HG := Aside0.mk hg
  clear hr hok hg
  go_enter Tryz.func138, Tryz.ntmps138
  go_wp2
  go_loopg [5, 8] l.length (fun gg s5 s8 wx => ∃ i : Nat, i + gg = l.length ∧ s8 = .int .i64 i ∧ Aside0 (Below w.heap.size w wx) ∧ Aside0 ((l.take i).any badNeed = false))
  case atStart => exact ⟨0, by omega, rfl, ⟨Below.refl _ _⟩, ⟨rfl⟩⟩
  case round =>
    obtain ⟨i, hig, rfl, HB, HN⟩ := hrel
    cases gk with
    | zero =>
      obtain rfl : i = l.length := by omega
      have hiz : ¬ ((l.length : Int) < (l.length : Int)) := by omega
      go_wp2
      go_ret
      exact ⟨-1, rfl, by rw [List.take_length] at HN; rw [HN.out]; rfl, HB.out⟩
    | succ gg =>
      have hi : i < l.length := by omega
      have hiz : (i : Int) < (l.length : Int) := by omega
      obtain ⟨ad, e, h0, h1, h2, h3⟩ := at_T49 HR.out (i : Int) (by omega) hiz
      cases e
      have hx : Aside0 (rd_T49 l (i : Int) = l[i]) := ⟨rdOf_at _ _ _ hi⟩
      rw [hx.out] at h0 h1 h2 h3
      replace h0 := (HB.out.cell (World.block_lt_of_cell? w _ h0)).trans h0
      replace h1 := (HB.out.cell (World.block_lt_of_cell? w _ h1)).trans h1
      replace h2 := (HB.out.cell (World.block_lt_of_cell? w _ h2)).trans h2
      replace h3 := (HB.out.cell (World.block_lt_of_cell? w _ h3)).trans h3
      simp only [Int.toNat_natCast] at h0 h1 h2 h3
      have hcall := lack_Check1_calls l[i] g wr (HO.out _ (List.getElem_mem hi)) ((HB.out.block g hglt).trans HG.out)
      have HT := Aside0.mk (List.take_add_one (l := l) (i := i))
      have hgetE : Aside0 (l[i]? = some l[i]) := ⟨List.getElem?_eq_getElem hi⟩
      obtain ⟨y, hy⟩ : ∃ y, l[i] = y := ⟨_, rfl⟩
      rw [hy] at h0 h1 h2 h3 hcall hgetE
      have hmem : Aside0 (y ∈ l) := ⟨by rw [← hy]; exact List.getElem_mem hi⟩
      clear hx hy
      cases hb : badNeed y
      · rw [hb] at hcall
        have HBad := Aside0.mk hb
        clear hb
        go_wp2_with (go_at_call 110; (with_reducible refine hcall.mono ?_); rintro e w' ⟨rfl, hb2⟩)
        go_roundg gg
        case measure => omega
        case rel => exact ⟨i + 1, by omega, by go_num, ⟨below_then HB.out HB.out.size hb2⟩, ⟨by rw [HT.out, hgetE.out, List.any_append, HN.out]; simp [HBad.out]⟩⟩
      · rw [hb] at hcall
        have HBad := Aside0.mk hb
        clear hb
        go_wp2_with (go_at_call 110; (with_reducible refine hcall.mono ?_); rintro e w' ⟨rfl, hb2⟩)
        go_ret
        exact ⟨(i : Int), rfl, by rw [decide_eq_true (by omega)]; exact (List.any_eq_true.2 ⟨y, hmem.out, HBad.out⟩).symm, below_then HB.out HB.out.size hb2⟩
theorem containsNeed_calls (A : Option Addr) (c : Nat) (l : List SNeed) (g : Nat) (w : World) (hr : Kd.C k49 w A l.length l) (hok : ∀ x ∈ l, okNeed x = true) (hg : w.heap[g]? = some (.cells #[.string ⟨#[]⟩, .string ⟨#[]⟩] 24 (0, 0))) :
    Calls Tryz.prog 109 #[.slice A l.length c, .func (.func 110) #[] #[.pointer (some ⟨g, 0, none⟩)]] w fun e w' => e = .returned (.bool (l.any badNeed)) ∧ Below w.heap.size w w' := by
  have hI := indexNeed_calls A c l g w hr hok hg
  clear hr hok hg
  go_enter Tryz.func109, Tryz.ntmps109
  go_wp2_with (go_at_call 138; (with_reducible refine hI.mono ?_); rintro e w' ⟨z, rfl, hz, hb⟩; have HZ := Aside0.mk hz; clear hz)
  go_ret
  exact ⟨by rw [← HZ.out]; rfl, hb⟩
def lack_Check.f (l0 : List SNeed) : Option Int := if l0.all okNeed then some (if l0.any badNeed then 1 else 0) else none
set_option maxHeartbeats 1000000 in
theorem lack_Check.calls (A0 : Option Addr) (c0 : Nat) (l0 : List SNeed) (r : Int) (w : World) (hr0 : Kd.C k49 w A0 l0.length l0) (hc0 : l0.length ≤ c0) (h : lack_Check.f l0 = some r) :
    Calls Tryz.prog 71 #[.slice A0 l0.length c0] w fun e w' => e = .returned (.int .i64 r) ∧ Below w.heap.size w w' := by
  unfold lack_Check.f at h
  split at h
  case isFalse => cases h
  rename_i hok
  obtain rfl := Option.some.inj h
  clear h
  have hok' : ∀ x ∈ l0, okNeed x = true := List.all_eq_true.1 hok
  have hb1 : Below w.heap.size w (w.alloc (.cells #[.string ⟨#[]⟩, .string ⟨#[]⟩] 24)) := (Below.refl _ _).alloc (Nat.le_refl _) _
  have hC := containsNeed_calls A0 c0 l0 w.heap.size _ (Kd.C_below hr0 hb1) hok' (heap_alloc_new w _)
  have HB := Aside0.mk hb1
  clear hr0 hc0 hok hok' hb1
  cases hb : l0.any badNeed
  · rw [hb] at hC
    go_enter Tryz.func71, Tryz.ntmps71
    go_wp2_with (go_at_call 109; (with_reducible refine hC.mono ?_); rintro e w' ⟨rfl, hb2⟩)
    go_ret
    exact ⟨rfl, below_then HB.out HB.out.size hb2⟩
  · rw [hb] at hC
    go_enter Tryz.func71, Tryz.ntmps71
    go_wp2_with (go_at_call 109; (with_reducible refine hC.mono ?_); rintro e w' ⟨rfl, hb2⟩)
    go_ret
    exact ⟨rfl, below_then HB.out HB.out.size hb2⟩
end Go.Proofs.YtjfcmkddeglghaaGreatDoor.G
end
section
namespace Go.Proofs.YtjfcmkddeglghaaGreatDoor.G
open Go.RowKit Gw Go.Proofs.YtjfcmkddeglghaaGreatDoorW.PrintWords Go.Proofs.YtjfcmkddeglghaaGreatDoorW.PrintLast
open Go.ChangeMaps (setBlock)
set_option linter.unusedVariables false
set_option linter.unusedSimpArgs false
abbrev MNode := S24
def keyV (x : MNode) : Value := .agg #[.string x.f0, .string x.f1]
def entAt (p : MNode × Int) (i : Nat) : MapEntry := { key := keyV p.1, val := .int .i64 p.2, born := i }
def ents (l : List (MNode × Int)) : List MapEntry := l.zipIdx.map fun q => entAt q.1 q.2
def sameN (x y : MNode) : Bool := x.f0.toList == y.f0.toList && x.f1.toList == y.f1.toList
theorem sameN_iff (x y : MNode) : sameN x y = true ↔ x = y := by
  unfold sameN
  simp only [Bool.and_eq_true, beq_iff_eq]
  constructor
  · rintro ⟨h1, h2⟩
    obtain ⟨a, b⟩ := x
    obtain ⟨c, d⟩ := y
    have e1 : a = c := ext_data (by rw [← toList_data, ← toList_data]; exact h1)
    have e2 : b = d := ext_data (by rw [← toList_data, ← toList_data]; exact h2)
    rw [e1, e2]
  · rintro rfl; exact ⟨rfl, rfl⟩
theorem und24 : Tryz.prog.underlying 24 = some (.struct (Tryz.prog.fieldsOf 24)) := by kernel_rfl
theorem hss9 : Tryz.prog.underlying 9 = some .string := by kernel_rfl
set_option maxRecDepth 100000 in
theorem run_equal_node (x y : MNode) (w : World) : (Op.equal 24 (keyV x) (keyV y)).run Tryz.prog w = .ok (sameN x y) w := by
  have hu24 := Tryz.underlying24
  have h9 := hss9
  unfold Op.equal keyV
  show (Op.equalIn 10000 _ _ _).run _ w = _
  go_simp
  unfold sameN
  by_cases h0 : x.f0.toList = y.f0.toList
  · by_cases h1 : x.f1.toList = y.f1.toList <;> simp [h0, h1]
  · simp [h0]
def lookI (l : List (MNode × Int)) (x : MNode) (i : Nat) : Option (Nat × Int) :=
  match l with
  | [] => none
  | p :: l => if sameN x p.1 then some (i, p.2) else lookI l x (i + 1)
def lookM (l : List (MNode × Int)) (x : MNode) : Option Int := (lookI l x 0).map (·.2)
theorem run_findAsking (x : MNode) (w : World) : ∀ (l : List (MNode × Int)) (i : Nat),
    (Instr.findAsking 24 (keyV x) ((l.zipIdx i).map fun q => entAt q.1 q.2) i).run Tryz.prog w = .ok ((lookI l x i).map fun q => (q.1, Value.int .i64 q.2)) w := by
  intro l
  induction l with
  | nil => intro i; rfl
  | cons p l ih =>
    intro i
    rw [List.zipIdx_cons, List.map_cons, Instr.findAsking]
    simp only [Sem.run_bind]
    have e : (entAt p i).key = keyV p.1 := rfl
    rw [e, run_equal_node]
    simp only [Result.andThen_ok]
    unfold lookI
    cases sameN x p.1
    · simp only [Bool.false_eq_true, if_false]
      exact ih (i + 1)
    · simp only [if_true]
      rfl
theorem run_findKey (x : MNode) (w : World) (l : List (MNode × Int)) :
    (Instr.findKey 24 (keyV x) (ents l)).run Tryz.prog w = .ok ((lookI l x 0).map fun q => (q.1, Value.int .i64 q.2)) w := by
  unfold Instr.findKey
  simp only [Sem.run_bind, run_underlying und24, Result.andThen_ok]
  cases l with
  | nil => rfl
  | cons p l =>
    have e : Instr.findNow (.struct (Tryz.prog.fieldsOf 24)) (keyV x) (ents (p :: l)) 0 = none := rfl
    rw [e]
    exact run_findAsking x w (p :: l) 0
set_option maxRecDepth 100000 in
theorem run_checkKey (x : MNode) (b : Bool) (w : World) : (Instr.checkKey b 10000 24 (keyV x)).run Tryz.prog w = .ok () w := by
  have hu24 := Tryz.underlying24
  have h9 := hss9
  unfold keyV
  rw [show (10000 : Nat) = 9999 + 1 from rfl, Instr.checkKey]
  simp only [Sem.run_bind, run_underlying hu24, Result.andThen_ok]
  go_simp
  have hs : ∀ (s : ByteArray) (w : World), (Instr.checkKey b 9999 9 (.string s)).run Tryz.prog w = .ok () w := by
    intro s w
    rw [show (9999 : Nat) = 9998 + 1 from rfl, Instr.checkKey]
    simp only [Sem.run_bind, run_underlying h9, Result.andThen_ok]
    rfl
  rw [hs]
  simp only [Result.andThen_ok]
  rw [hs]
  rfl
def MapIs (w : World) (B : Nat) (l : List (MNode × Int)) : Prop := w.heap[B]? = some (.map (ents l).toArray l.length)
theorem undMap : Tryz.prog.underlying 106 = some (.map 24 3) := by kernel_rfl
theorem zeroInt (w : World) : (zeroValue 3).run Tryz.prog w = .ok (.int .i64 0) w := by kernel_rfl
theorem run_lookup_ok (x : MNode) (w : World) (B : Nat) (l : List (MNode × Int)) (h : MapIs w B l) :
    (Instr.lookup 106 (.map (some B)) (keyV x) true).run Tryz.prog w = .ok (.tuple #[.int .i64 ((lookM l x).getD 0), .bool (lookM l x).isSome]) w := by
  unfold Instr.lookup
  have hg : (getObj B).run Tryz.prog w = .ok (.map (ents l).toArray l.length) w := by
    simp [getObj, Sem.run, h]
    rw [show w.heap[B]? = _ from h]
  simp only [Sem.run_bind, run_underlying undMap, Result.andThen_ok, hg, Sem.run_pure, run_checkKey, run_findKey, List.toList_toArray]
  unfold lookM
  cases lookI l x 0 with
  | none => simp only [Option.map_none, Sem.run_bind, zeroInt, Result.andThen_ok]; rfl
  | some q => rfl
theorem run_lookup (x : MNode) (w : World) (B : Nat) (l : List (MNode × Int)) (h : MapIs w B l) :
    (Instr.lookup 106 (.map (some B)) (keyV x) false).run Tryz.prog w = .ok (.int .i64 ((lookM l x).getD 0)) w := by
  unfold Instr.lookup
  have hg : (getObj B).run Tryz.prog w = .ok (.map (ents l).toArray l.length) w := by
    simp [getObj, Sem.run, h]
    rw [show w.heap[B]? = _ from h]
  simp only [Sem.run_bind, run_underlying undMap, Result.andThen_ok, hg, Sem.run_pure, run_checkKey, run_findKey, List.toList_toArray]
  unfold lookM
  cases lookI l x 0 with
  | none => simp only [Option.map_none, Sem.run_bind, zeroInt, Result.andThen_ok]; rfl
  | some q => rfl
theorem ents_snoc (l : List (MNode × Int)) (p : MNode × Int) : ents (l ++ [p]) = ents l ++ [entAt p l.length] := by
  unfold ents
  rw [List.zipIdx_append, List.map_append]
  simp
theorem run_update_new (x : MNode) (v : Int) (w : World) (B : Nat) (l : List (MNode × Int)) (h : MapIs w B l) (hn : lookM l x = none) :
    (Instr.mapUpdate 106 (.map (some B)) (keyV x) (.int .i64 v)).run Tryz.prog w = .ok () (setBlock w B (.map (ents (l ++ [(x, v)])).toArray (l ++ [(x, v)]).length)) := by
  unfold Instr.mapUpdate
  have hg : (getObj B).run Tryz.prog w = .ok (.map (ents l).toArray l.length) w := by
    simp [getObj, Sem.run, h]
    rw [show w.heap[B]? = _ from h]
  have hl : lookI l x 0 = none := by
    unfold lookM at hn
    exact Option.map_eq_none_iff.1 hn
  simp only [Sem.run_bind, run_underlying undMap, Result.andThen_ok, hg, run_checkKey, run_findKey, List.toList_toArray, hl, Option.map_none]
  rw [ents_snoc, List.length_append]
  have hs : ∀ o, (setObj B o).run Tryz.prog w = .ok () (setBlock w B o) := fun o => by simp [setObj, Sem.run, setBlock]; rw [show w.heap[B]? = _ from h]
  rw [hs]
  simp [entAt]
end Go.Proofs.YtjfcmkddeglghaaGreatDoor.G
end
section
namespace Go.Proofs.YtjfcmkddeglghaaGreatDoor.G
open Go.RowKit Gw Go.Proofs.YtjfcmkddeglghaaGreatDoorW.PrintWords Go.Proofs.YtjfcmkddeglghaaGreatDoorW.PrintLast Go.Proofs.YtjfcmkddeglghaaGreatDoorW.PrintMore
set_option linter.unusedVariables false
set_option linter.unusedSimpArgs false
theorem refCmpS_loop (a b : Str) (ha : Sz a) (hb : Sz b) : ∀ n i, i + n = a.length → i ≤ b.length → Ev (fun k => r01_Cmp.l0 k (ofL a) (ofL b) (i : Int)) (cmpS (a.drop i) (b.drop i)) := by
  intro n
  have hsa : a.length < 4294967281 := ha
  have hsb : b.length < 4294967281 := hb
  induction n with
  | zero =>
    intro i hi hib
    refine Ev.succ ?_
    simp only [r01_Cmp.l0]
    refine Ev.neg (by rw [size_ofL]; omega) (Ev.succ ?_)
    simp only [r01_Cmp.j1]
    rw [size_ofL, size_ofL, List.drop_of_length_le (by omega : a.length ≤ i)]
    refine Ev.neg (by simp) ?_
    by_cases h : a.length < b.length
    · refine Ev.pos (by omega) (Ev.some_eq ?_)
      rw [drop_at b i (by omega)]
      rfl
    · refine Ev.neg (by omega) (Ev.neg (by omega) (Ev.some_eq ?_))
      rw [List.drop_of_length_le (by omega)]
      rfl
  | succ n ih =>
    intro i hi hib
    have hia : i < a.length := by omega
    refine Ev.succ ?_
    simp only [r01_Cmp.l0]
    refine Ev.pos (by rw [size_ofL]; omega) (Ev.succ ?_)
    simp only [r01_Cmp.j1]
    rw [size_ofL, size_ofL]
    by_cases h : i < b.length
    · refine Ev.pos (by simpa using h) (Ev.pos (by omega) (Ev.pos (by omega) (Ev.pos (by omega) ?_)))
      rw [bt_at_ofL a i hia, bt_at_ofL b i h, drop_at a i hia, drop_at b i h]
      show Ev _ (or3 (cmpB a[i] b[i]) (cmpS (a.drop (i + 1)) (b.drop (i + 1))))
      unfold cmpB cmpN or3
      by_cases h1 : a[i].toNat < b[i].toNat
      · exact Ev.pos (by omega) (Ev.some_eq (by simp [h1]))
      · refine Ev.neg (by omega) ?_
        by_cases h2 : b[i].toNat < a[i].toNat
        · exact Ev.pos (by omega) (Ev.some_eq (by simp [h1, h2]))
        · refine Ev.neg (by omega) ?_
          rw [w64n i (by omega)]
          exact Ev.val (ih (i + 1) (by omega) (by omega)) (by simp [h1, h2])
    · refine Ev.neg (by simpa using h) ?_
      refine Ev.neg (by omega) (Ev.pos (by omega) (Ev.some_eq ?_))
      rw [List.drop_of_length_le (by omega : b.length ≤ i), drop_at a i hia]
      rfl
theorem refCmpS_ev (a b : Str) (ha : Sz a) (hb : Sz b) : Ev (fun k => r01_Cmp.f k (ofL a) (ofL b)) (cmpS a b) := by
  unfold r01_Cmp.f
  exact Ev.val (refCmpS_loop a b ha hb _ 0 (Nat.zero_add _) (Nat.zero_le _)) rfl
theorem refAt_in (s : Str) (i : Nat) (h : Sz s) (hi : i < s.length) : r02_at.f (ofL s) (i : Int) = some (digR (s[s.length - 1 - i]'(by omega))) := by
  have hs : s.length < 4294967281 := h
  unfold r02_at.f
  have e1 : wrap64 ((s.length : Int) - 1) = (s.length : Int) - 1 := w64 (by omega) (by omega)
  rw [size_ofL, if_neg (by omega), e1, w64 (by omega) (by omega), if_pos (by omega), if_pos (by omega)]
  rw [show (s.length : Int) - 1 - (i : Int) = ((s.length - 1 - i : Nat) : Int) from by omega, bt_at_ofL s _ (by omega), refDigit_eq]
  rfl
theorem refAt_out (s : Str) (i : Nat) (hi : s.length ≤ i) : r02_at.f (ofL s) (i : Int) = some 0 := by
  unfold r02_at.f
  rw [size_ofL, if_pos (by omega)]
theorem digR_lt (x y : UInt8) (hx : isDigit x = true) (hy : isDigit y = true) : (digR x < digR y) ↔ x.toNat < y.toNat := by
  unfold digR
  rw [if_pos hx, if_pos hy]
  omega
theorem refNumCmp_eq (a b : Str) (ha : Sz a) (hl : a.length = b.length) (da : a.all isDigit = true) (db : b.all isDigit = true) : ∀ m, m ≤ a.length →
    Ev (fun k => r02_Cmp.l0 k (ofL a) (ofL b) ((m : Int) - 1)) (cmpS (a.drop (a.length - m)) (b.drop (a.length - m))) := by
  have hb : Sz b := by unfold Sz at *; omega
  have hsa : a.length < 4294967281 := ha
  intro m
  induction m with
  | zero =>
    intro _
    refine Ev.succ ?_
    simp only [r02_Cmp.l0]
    refine Ev.neg (by omega) (Ev.some_eq ?_)
    rw [List.drop_of_length_le (by omega), List.drop_of_length_le (by omega)]
    rfl
  | succ m ih =>
    intro hm
    refine Ev.succ ?_
    simp only [r02_Cmp.l0]
    rw [show ((m + 1 : Nat) : Int) - 1 = (m : Int) from by omega]
    refine Ev.pos (by omega) ?_
    have hi : a.length - (m + 1) < a.length := by omega
    have hib : a.length - (m + 1) < b.length := by omega
    have e1 := refAt_in a m ha (by omega)
    have e2 := refAt_in b m hb (by omega)
    have g1 : a[a.length - 1 - m]'(by omega) = a[a.length - (m + 1)] := by congr 1; omega
    have g2 : b[b.length - 1 - m]'(by omega) = b[a.length - (m + 1)] := by congr 1; omega
    rw [g1] at e1
    rw [g2] at e2
    rw [drop_at a _ hi, drop_at b _ hib, show a.length - (m + 1) + 1 = a.length - m from by omega]
    have d1 : isDigit a[a.length - (m + 1)] = true := List.all_eq_true.1 da _ (List.getElem_mem _)
    have d2 : isDigit b[a.length - (m + 1)] = true := List.all_eq_true.1 db _ (List.getElem_mem _)
    generalize a[a.length - (m + 1)] = x at e1 d1
    generalize b[a.length - (m + 1)] = y at e2 d2
    have l1 := digR_lt x y d1 d2
    have l2 := digR_lt y x d2 d1
    show Ev _ (or3 (cmpB x y) (cmpS (a.drop (a.length - m)) (b.drop (a.length - m))))
    unfold cmpB cmpN or3
    refine Ev.bindc e1 (Ev.bindc e2 ?_)
    by_cases h1 : x.toNat < y.toNat
    · exact Ev.pos (l1.2 h1) (Ev.some_eq (by simp [h1]))
    · refine Ev.neg (fun h => h1 (l1.1 h)) (Ev.bindc e1 (Ev.bindc e2 ?_))
      by_cases h2 : y.toNat < x.toNat
      · exact Ev.pos (l2.2 h2) (Ev.some_eq (by simp [h1, h2]))
      · refine Ev.neg (fun h => h2 (l2.1 h)) ?_
        rw [w64 (by omega) (by omega)]
        exact Ev.val (ih (by omega)) (by simp [h1, h2])
theorem numMay_head {s : Str} (h : numMay s = true) : 0 < s.length ∧ s.all isDigit = true ∧ (1 < s.length → ∃ c t, s = c :: t ∧ c ≠ 48) := by
  unfold numMay at h
  simp only [Bool.and_eq_true, Bool.or_eq_true, beq_iff_eq, decide_eq_true_eq] at h
  obtain ⟨h1, h2⟩ := h
  refine ⟨?_, h1, ?_⟩
  · rcases h2 with h2 | h2
    · omega
    · omega
  · intro h3
    rcases h2 with h2 | ⟨_, h2⟩
    · omega
    · cases s with
      | nil => simp at h3
      | cons c t => exact ⟨c, t, rfl, by simpa using h2⟩
theorem digR_pos (c : UInt8) (hc : c ≠ 48) (hd : isDigit c = true) : 0 < digR c := by
  have := u8_all (fun c => c == 48 || !isDigit c || decide (0 < digR c)) (by decide +kernel) c
  simpa [hc, hd] using this
theorem refNumCmp_ev (a b : Str) (ha : Sz a) (hb : Sz b) (ma : numMay a = true) (mb : numMay b = true) : Ev (fun k => r02_Cmp.f k (ofL a) (ofL b)) (numCmp a b) := by
  unfold r02_Cmp.f numCmp
  have hsa : a.length < 4294967281 := ha
  have hsb : b.length < 4294967281 := hb
  obtain ⟨pa, da, na⟩ := numMay_head ma
  obtain ⟨pb, db, nb⟩ := numMay_head mb
  rw [size_ofL, size_ofL]
  unfold mx cmpN or3
  by_cases h1 : a.length < b.length
  · rw [if_pos (by omega), w64 (by omega) (by omega), if_pos h1, if_neg (by omega)]
    refine Ev.succ ?_
    simp only [r02_Cmp.l0]
    refine Ev.pos (by omega) ?_
    obtain ⟨c, t, e, hc⟩ := nb (by omega)
    have e2 := refAt_in b (b.length - 1) hb (by omega)
    have g : b[b.length - 1 - (b.length - 1)]'(by omega) = c := by
      have : b.length - 1 - (b.length - 1) = 0 := by omega
      simp only [this]
      subst e
      rfl
    rw [g] at e2
    rw [show (b.length : Int) - 1 = ((b.length - 1 : Nat) : Int) from by omega]
    refine Ev.bindc (refAt_out a (b.length - 1) (by omega)) (Ev.bindc e2 (Ev.pos ?_ (Ev.some_ _)))
    exact digR_pos c hc (List.all_eq_true.1 db c (by rw [e]; simp))
  · by_cases h2 : b.length < a.length
    · rw [if_neg (by omega), w64 (by omega) (by omega), if_neg h1, if_pos h2, if_neg (by omega)]
      refine Ev.succ ?_
      simp only [r02_Cmp.l0]
      refine Ev.pos (by omega) ?_
      obtain ⟨c, t, e, hc⟩ := na (by omega)
      have e2 := refAt_in a (a.length - 1) ha (by omega)
      have g : a[a.length - 1 - (a.length - 1)]'(by omega) = c := by
        have : a.length - 1 - (a.length - 1) = 0 := by omega
        simp only [this]
        subst e
        rfl
      rw [g] at e2
      rw [show (a.length : Int) - 1 = ((a.length - 1 : Nat) : Int) from by omega]
      have e1 := refAt_out b (a.length - 1) (by omega)
      have hp := digR_pos c hc (List.all_eq_true.1 da c (by rw [e]; simp))
      exact Ev.bindc e2 (Ev.bindc e1 (Ev.neg (by omega) (Ev.bindc e2 (Ev.bindc e1 (Ev.pos (by omega) (Ev.some_ _))))))
    · rw [if_neg (by omega), w64 (by omega) (by omega), if_neg h1, if_neg h2, if_pos rfl]
      have h3 := refNumCmp_eq a b ha (by omega) da db a.length (Nat.le_refl _)
      rw [Nat.sub_self] at h3
      exact h3
theorem refWords_ev (a b : Str) (ha : Sz a) (hb : Sz b) : Ev (fun k => r03_words.f k (ofL a) (ofL b)) (wordCmp a b) := by
  unfold r03_words.f wordCmp
  refine Ev.bind (refNum_ev a ha) (Ev.bind (refNum_ev b hb) ?_)
  cases ma : numMay a
  · refine Ev.neg (by simp) (Ev.succ ?_)
    simp only [r03_words.j0]
    refine Ev.neg (by simp) (Ev.neg (by simp) ?_)
    cases mb : numMay b
    · exact Ev.neg (by simp) (Ev.bind (refCmpS_ev a b ha hb) (Ev.some_eq (by simp)))
    · exact Ev.pos (by simp) (Ev.some_eq (by simp))
  · refine Ev.pos rfl (Ev.succ ?_)
    simp only [r03_words.j0]
    cases mb : numMay b
    · exact Ev.neg (by simp) (Ev.pos (by simp) (Ev.some_eq (by simp)))
    · exact Ev.pos (by simp) (Ev.bind (refNumCmp_ev a b ha hb ma mb) (Ev.some_eq (by simp)))
theorem split_sz {s : Str} {v : Ver} (h : verSplit s = some v) (hs : Sz s) : Sz v.major ∧ Sz v.minor ∧ Sz v.patch ∧ (∀ x ∈ v.pre, Sz x) ∧ numMay v.major = true ∧ numMay v.minor = true ∧ numMay v.patch = true ∧ v.pre.length < 4294967282 := by
  unfold verSplit at h
  split at h
  · rename_i r
    have hr : Sz r := by unfold Sz at *; simp at hs; omega
    have ht : Sz (r.takeWhile (· != 45)) := by
      have := (List.takeWhile_sublist (fun x : UInt8 => x != 45) (l := r)).length_le
      unfold Sz at *; omega
    have hd : (r.dropWhile (· != 45)).length ≤ r.length := (List.dropWhile_sublist (fun x : UInt8 => x != 45) (l := r)).length_le
    split at h
    · rename_i a b c e
      have hp := sz_parts 46 _ ht
      rw [e] at hp
      split at h
      · rename_i hn
        simp only [Bool.and_eq_true] at hn
        split at h
        · injection h with h
          subst h
          exact ⟨hp a (by simp), hp b (by simp), hp c (by simp), by simp, hn.1.1, hn.1.2, hn.2, by simp⟩
        · rename_i x q e2
          split at h
          · injection h with h
            subst h
            rw [e2] at hd
            have hq : Sz q := by unfold Sz at *; simp at hd; omega
            have := parts_len 46 q
            exact ⟨hp a (by simp), hp b (by simp), hp c (by simp), sz_parts 46 q hq, hn.1.1, hn.1.2, hn.2, by unfold Sz at hq; show (parts 46 q).length < _; omega⟩
          · cases h
      · cases h
    · cases h
  · cases h
theorem refPre_loop (p q : List Str) (hp : ∀ x ∈ p, Sz x) (hq : ∀ x ∈ q, Sz x) (lp : p.length < 4294967282) (lq : q.length < 4294967282) (x0 x1 x2 y0 y1 y2 : ByteArray) : ∀ n i, i + n = p.length → i ≤ q.length →
    Ev (fun k => r03_Cmp.l0 k (p.length : Int) (q.length : Int) (i : Int) x0 x1 x2 (p.map ofL) y0 y1 y2 (q.map ofL)) (cmpLs wordCmp (p.drop i) (q.drop i)) := by
  intro n
  induction n with
  | zero =>
    intro i hi hiq
    refine Ev.succ ?_
    simp only [r03_Cmp.l0]
    refine Ev.neg (by omega) (Ev.succ ?_)
    simp only [r03_Cmp.j2]
    rw [List.drop_of_length_le (by omega : p.length ≤ i)]
    refine Ev.neg (by simp) ?_
    by_cases h : p.length < q.length
    · refine Ev.pos (by omega) (Ev.some_eq ?_)
      rw [drop_at q i (by omega)]
      rfl
    · refine Ev.neg (by omega) (Ev.neg (by omega) (Ev.some_eq ?_))
      rw [List.drop_of_length_le (by omega)]
      rfl
  | succ n ih =>
    intro i hi hiq
    have hia : i < p.length := by omega
    refine Ev.succ ?_
    simp only [r03_Cmp.l0]
    refine Ev.pos (by omega) (Ev.succ ?_)
    simp only [r03_Cmp.j2]
    by_cases h : i < q.length
    · refine Ev.pos (by simpa using h) (Ev.pos (by omega) (Ev.pos (by rw [List.length_map]; omega) (Ev.pos (by rw [List.length_map]; omega) ?_)))
      rw [rdOf_at _ _ _ (by rw [List.length_map]; exact hia), rdOf_at _ _ _ (by rw [List.length_map]; exact h), List.getElem_map, List.getElem_map, drop_at p i hia, drop_at q i h]
      refine Ev.bind (refWords_ev _ _ (hp _ (List.getElem_mem _)) (hq _ (List.getElem_mem _))) ?_
      show Ev _ (or3 (wordCmp p[i] q[i]) (cmpLs wordCmp (p.drop (i + 1)) (q.drop (i + 1))))
      unfold or3
      by_cases h0 : wordCmp p[i] q[i] = 0
      · rw [if_pos h0]
        refine Ev.pos h0 ?_
        rw [w64n i (by omega)]
        exact ih (i + 1) (by omega) (by omega)
      · rw [if_neg h0]
        exact Ev.neg h0 (Ev.some_ _)
    · refine Ev.neg (by simpa using h) ?_
      refine Ev.neg (by omega) (Ev.pos (by omega) (Ev.some_eq ?_))
      rw [List.drop_of_length_le (by omega : q.length ≤ i), drop_at p i hia]
      rfl
theorem refVerCmp_ev (a b : Str) (ha : Sz a) (hb : Sz b) (ma : verMay a = true) (mb : verMay b = true) : Ev (fun k => r03_Cmp.f k (ofL a) (ofL b)) (verCmp a b) := by
  unfold r03_Cmp.f
  unfold verMay at ma mb
  obtain ⟨v, hv⟩ := Option.isSome_iff_exists.1 ma
  obtain ⟨u, hu⟩ := Option.isSome_iff_exists.1 mb
  have h1 := refSplit_ev a ha
  have h2 := refSplit_ev b hb
  rw [hv] at h1
  rw [hu] at h2
  have e : verCmp a b = verCmp' v u := by unfold verCmp verOf; rw [hv, hu]; rfl
  rw [e]
  obtain ⟨s1, s2, s3, s4, m1, m2, m3, l1⟩ := split_sz hv ha
  obtain ⟨t1, t2, t3, t4, n1, n2, n3, l2⟩ := split_sz hu hb
  refine Ev.bind h1 (Ev.bind h2 ?_)
  simp only [refOut]
  unfold verCmp'
  refine Ev.bind (refNumCmp_ev _ _ s1 t1 m1 n1) ?_
  by_cases c1 : numCmp v.major u.major = 0
  · refine Ev.pos c1 (Ev.bind (refNumCmp_ev _ _ s2 t2 m2 n2) ?_)
    by_cases c2 : numCmp v.minor u.minor = 0
    · refine Ev.pos c2 (Ev.bind (refNumCmp_ev _ _ s3 t3 m3 n3) ?_)
      by_cases c3 : numCmp v.patch u.patch = 0
      · refine Ev.pos c3 ?_
        rw [c1, c2, c3]
        show Ev _ (or3 0 (or3 0 (or3 0 (preCmp v.pre u.pre))))
        have z : ∀ x, or3 0 x = x := fun x => rfl
        rw [z, z, z]
        simp only [List.length_map]
        unfold preCmp
        by_cases p0 : v.pre = []
        · refine Ev.pos (by rw [p0]; rfl) ?_
          rw [if_pos p0]
          refine Ev.succ ?_
          simp only [r03_Cmp.j0]
          by_cases q0 : u.pre = []
          · rw [if_pos q0]
            exact Ev.pos (by rw [q0]; rfl) (Ev.some_ _)
          · rw [if_neg q0]
            have : 0 < u.pre.length := List.length_pos_iff.2 q0
            refine Ev.neg (by simp [q0]) (Ev.pos (by rw [p0]; rfl) (Ev.some_ _))
        · have hp0 : 0 < v.pre.length := List.length_pos_iff.2 p0
          refine Ev.neg (by omega) ?_
          rw [if_neg p0]
          refine Ev.succ ?_
          simp only [r03_Cmp.j0]
          refine Ev.neg (by simp) (Ev.neg (by omega) ?_)
          by_cases q0 : u.pre = []
          · rw [if_pos q0]
            exact Ev.pos (by rw [q0]; rfl) (Ev.some_ _)
          · rw [if_neg q0]
            have : 0 < u.pre.length := List.length_pos_iff.2 q0
            refine Ev.neg (by omega) ?_
            exact Ev.val (refPre_loop v.pre u.pre s4 t4 l1 l2 _ _ _ _ _ _ _ 0 (Nat.zero_add _) (Nat.zero_le _)) rfl
      · refine Ev.neg c3 (Ev.some_eq ?_)
        rw [c1, c2]
        show _ = or3 0 (or3 0 (or3 _ _))
        unfold or3
        simp [c3]
    · refine Ev.neg c2 (Ev.some_eq ?_)
      rw [c1]
      unfold or3
      simp [c2]
  · refine Ev.neg c1 (Ev.some_eq ?_)
    unfold or3
    simp [c1]
end Go.Proofs.YtjfcmkddeglghaaGreatDoor.G
end
section
namespace Go.Proofs.YtjfcmkddeglghaaGreatDoor.G
open Go.RowKit Gw Go.Proofs.YtjfcmkddeglghaaGreatDoorW.PrintWords Go.Proofs.YtjfcmkddeglghaaGreatDoorW.PrintLast Go.Proofs.YtjfcmkddeglghaaGreatDoorW.PrintMore
set_option linter.unusedVariables false
set_option linter.unusedSimpArgs false
instance : DecidableEq MNode := fun x y => decidable_of_iff _ (sameN_iff x y)
theorem sameN_eq (x y : SNode) : sameN x y = decide (x = y) := by
  by_cases h : x = y
  · rw [decide_eq_true h]; exact (sameN_iff x y).2 h
  · rw [decide_eq_false h]
    cases hs : sameN x y
    · rfl
    · exact absurd ((sameN_iff x y).1 hs) h
def ndC (x y : SNode) : Int := ndCmp (ndOf x) (ndOf y)
def goodN (x : SNode) : Prop := okNode x = true ∧ mayN x = true
theorem ndOf_inj {x y : SNode} (h : ndOf x = ndOf y) : x = y := by
  obtain ⟨a, b⟩ := x
  obtain ⟨c, d⟩ := y
  unfold ndOf at h
  injection h with h1 h2
  rw [show a = c from ext_data h1, show b = d from ext_data h2]
theorem ndC_total : TotalOn goodN ndC := by
  have h : TotalOn (fun x => mayN x = true) ndC := ndCmp_total.comap ndOf (fun _ h => h) (fun x y _ _ h => ndOf_inj h)
  exact ⟨h.self, h.anti, fun a b ha hb => h.eq0 a b ha.2 hb.2, fun a b d ha hb hd => h.trans a b d ha.2 hb.2 hd.2⟩
theorem okNode_sz {x : SNode} (h : okNode x = true) : Sz x.f0.data.toList ∧ Sz x.f1.data.toList := by
  unfold okNode at h
  simp only [Bool.and_eq_true, decide_eq_true_eq] at h
  unfold Sz
  rw [← size_data, ← size_data]
  exact h
theorem refMayN_ev (x : SNode) (h : okNode x = true) : Ev (fun k => r05_May.f k x.f0 x.f1) (mayN x) := by
  obtain ⟨h1, h2⟩ := okNode_sz h
  have := refNode_ev _ _ h1 h2
  rw [ofL_self, ofL_self] at this
  exact this
theorem refLess_ev (x y : SNode) (hx : goodN x) (hy : goodN y) : Ev (fun k => r05_Less.f k x.f0 x.f1 y.f0 y.f1) (decide (ndC x y < 0)) := by
  obtain ⟨a1, a2⟩ := okNode_sz hx.1
  obtain ⟨b1, b2⟩ := okNode_sz hy.1
  have h1 := refCmpS_ev _ _ a1 b1
  have mx := hx.2
  have my := hy.2
  unfold mayN ndMay at mx my
  simp only [Bool.and_eq_true] at mx my
  have h2 := refVerCmp_ev _ _ a2 b2 mx.2 my.2
  rw [ofL_self, ofL_self] at h1 h2
  unfold r05_Less.f ndC ndCmp
  refine Ev.bind h1 ?_
  show Ev _ (decide (or3 (cmpS x.f0.data.toList y.f0.data.toList) (verCmp x.f1.data.toList y.f1.data.toList) < 0))
  unfold or3
  by_cases c1 : cmpS x.f0.data.toList y.f0.data.toList < 0
  · exact Ev.pos c1 (Ev.some_eq (by rw [if_neg (by omega), decide_eq_true c1]))
  · refine Ev.neg c1 ?_
    by_cases c2 : cmpS x.f0.data.toList y.f0.data.toList = 0
    · exact Ev.pos c2 (Ev.bind h2 (Ev.some_eq (by rw [if_pos c2])))
    · exact Ev.neg c2 (Ev.some_eq (by rw [if_neg c2, decide_eq_false c1]))
theorem rdNode_at (l : List SNode) (i : Nat) (h : i < l.length) : rd_T24 l (i : Int) = l[i] := rdOf_at _ l i h
theorem rdNeed_at (l : List SNeed) (i : Nat) (h : i < l.length) : rd_T49 l (i : Int) = l[i] := rdOf_at _ l i h
theorem refWith_l1 (l : List SNode) (x : SNode) (hl : ∀ y ∈ l, goodN y) (hx : goodN x) (hlen : l.length < 1000000000) : ∀ n i (acc : List SNode), i + n = l.length → acc.length ≤ l.length + 1 + i →
    Ev (fun k => r05_With.l1 k l acc (i : Int) x.f0 x.f1) (acc ++ (l.drop i).filter (fun y => decide (ndC x y < 0))) := by
  intro n
  induction n with
  | zero =>
    intro i acc hi ha
    refine Ev.succ ?_
    simp only [r05_With.l1]
    refine Ev.neg (by omega) (Ev.some_eq ?_)
    rw [List.drop_of_length_le (by omega)]
    simp
  | succ n ih =>
    intro i acc hi ha
    have hil : i < l.length := by omega
    refine Ev.succ ?_
    simp only [r05_With.l1]
    refine Ev.pos (by omega) (Ev.pos (by omega) ?_)
    rw [rdNode_at l i hil, drop_at l i hil, w64n i (by omega)]
    refine Ev.bind (refLess_ev x l[i] hx (hl _ (List.getElem_mem _))) ?_
    rw [List.filter_cons]
    cases hc : decide (ndC x l[i] < 0)
    · exact Ev.neg (by simp) (ih (i + 1) acc (by omega) (by omega))
    · refine Ev.pos rfl (Ev.pos (by omega) ?_)
      refine Ev.val (ih (i + 1) _ (by omega) (by simp; omega)) ?_
      simp
theorem refWith_l0 (l : List SNode) (x : SNode) (hl : ∀ y ∈ l, goodN y) (hx : goodN x) (hlen : l.length < 1000000000) : ∀ n i (acc : List SNode), i + n = l.length → acc.length ≤ i →
    Ev (fun k => r05_With.l0 k l acc (i : Int) x.f0 x.f1) (acc ++ (l.drop i).filter (fun y => decide (ndC y x < 0)) ++ x :: l.filter (fun y => decide (ndC x y < 0))) := by
  intro n
  induction n with
  | zero =>
    intro i acc hi ha
    refine Ev.succ ?_
    simp only [r05_With.l0]
    refine Ev.neg (by omega) (Ev.pos (by omega) ?_)
    refine Ev.val (refWith_l1 l x hl hx hlen l.length 0 (acc ++ [x]) (Nat.zero_add _) (by rw [List.length_append, List.length_singleton]; omega)) ?_
    rw [List.drop_of_length_le (by omega : l.length ≤ i)]
    simp
  | succ n ih =>
    intro i acc hi ha
    have hil : i < l.length := by omega
    refine Ev.succ ?_
    simp only [r05_With.l0]
    refine Ev.pos (by omega) (Ev.pos (by omega) ?_)
    rw [rdNode_at l i hil, drop_at l i hil, w64n i (by omega)]
    refine Ev.bind (refLess_ev l[i] x (hl _ (List.getElem_mem _)) hx) ?_
    rw [List.filter_cons]
    cases hc : decide (ndC l[i] x < 0)
    · exact Ev.neg (by simp) (ih (i + 1) acc (by omega) (by omega))
    · refine Ev.pos rfl (Ev.pos (by omega) ?_)
      refine Ev.val (ih (i + 1) _ (by omega) (by simp; omega)) ?_
      simp
theorem refWith_ev (l : List SNode) (x : SNode) (hl : ∀ y ∈ l, goodN y) (hx : goodN x) (hlen : l.length < 1000000000) : Ev (fun k => r05_With.f k l x.f0 x.f1) (withS ndC l x) := by
  unfold r05_With.f withS
  exact Ev.val (refWith_l0 l x hl hx hlen _ 0 [] (Nat.zero_add _) (by simp)) (by simp)
theorem withS_len' (l : List SNode) (x : SNode) : (withS ndC l x).length ≤ l.length + 1 := by
  unfold withS
  have h : ∀ l : List SNode, (l.filter fun y => decide (ndC y x < 0)).length + (l.filter fun y => decide (ndC x y < 0)).length ≤ l.length := by
    intro l
    induction l with
    | nil => simp
    | cons y l ih =>
      rw [List.filter_cons, List.filter_cons]
      have := ndC_total.anti x y
      by_cases h1 : ndC y x < 0
      · have h2 : ¬ ndC x y < 0 := by omega
        simp only [decide_eq_true h1, decide_eq_false h2, if_true, List.length_cons]
        simp
        omega
      · by_cases h2 : ndC x y < 0
        · simp only [decide_eq_false h1, decide_eq_true h2, if_true, List.length_cons]
          simp
          omega
        · simp only [decide_eq_false h1, decide_eq_false h2]
          simp
          omega
  have := h l
  simp
  omega
theorem refSet_loop (l : List SNode) (hl : ∀ y ∈ l, goodN y) (hlen : l.length < 100000000) : ∀ n i (acc : List SNode), i + n = l.length → acc.length ≤ i → (∀ y ∈ acc, goodN y) →
    Ev (fun k => r05_Set.l0 k l acc (i : Int)) ((l.drop i).foldl (withS ndC) acc) := by
  intro n
  induction n with
  | zero =>
    intro i acc hi ha hg
    refine Ev.succ ?_
    simp only [r05_Set.l0]
    refine Ev.neg (by omega) (Ev.some_eq ?_)
    rw [List.drop_of_length_le (by omega)]
    rfl
  | succ n ih =>
    intro i acc hi ha hg
    have hil : i < l.length := by omega
    refine Ev.succ ?_
    simp only [r05_Set.l0]
    refine Ev.pos (by omega) (Ev.pos (by omega) ?_)
    rw [rdNode_at l i hil, drop_at l i hil, w64n i (by omega)]
    have hx := hl _ (List.getElem_mem hil)
    refine Ev.bind (refWith_ev acc l[i] hg hx (by omega)) ?_
    have := withS_len' acc l[i]
    exact ih (i + 1) _ (by omega) (by omega) (withS_all ndC_total hg hx)
theorem refSet_ev (l : List SNode) (hl : ∀ y ∈ l, goodN y) (hlen : l.length < 100000000) : Ev (fun k => r05_Set.f k l) (setS ndC l) := by
  unfold r05_Set.f setS
  exact refSet_loop l hl hlen _ 0 [] (Nat.zero_add _) (by simp) (by simp)
theorem refHas_loop (l : List SNode) (x : SNode) (hlen : l.length < 1000000000) : ∀ n i, i + n = l.length → Ev (fun k => r05_Has.l0 k l (i : Int) x.f0 x.f1) (decide (x ∈ l.drop i)) := by
  intro n
  induction n with
  | zero =>
    intro i hi
    refine Ev.succ ?_
    simp only [r05_Has.l0]
    refine Ev.neg (by omega) (Ev.some_eq ?_)
    rw [List.drop_of_length_le (by omega)]
    rfl
  | succ n ih =>
    intro i hi
    have hil : i < l.length := by omega
    refine Ev.succ ?_
    simp only [r05_Has.l0]
    refine Ev.pos (by omega) (Ev.pos (by omega) ?_)
    rw [rdNode_at l i hil, drop_at l i hil, w64n i (by omega)]
    by_cases h : sameN l[i] x = true
    · refine Ev.pos h (Ev.some_eq ?_)
      rw [(sameN_iff _ _).1 h]
      simp
    · refine Ev.neg h (Ev.val (ih (i + 1) (by omega)) ?_)
      have hne : ¬ x = l[i] := fun e => h ((sameN_iff _ _).2 e.symm)
      apply decide_eq_decide.2
      rw [List.mem_cons]
      constructor
      · exact fun hh => .inr hh
      · exact fun hh => hh.resolve_left hne
theorem refHas_ev (l : List SNode) (x : SNode) (hlen : l.length < 1000000000) : Ev (fun k => r05_Has.f k l x.f0 x.f1) (decide (x ∈ l)) := by
  unfold r05_Has.f
  exact Ev.val (refHas_loop l x hlen _ 0 (Nat.zero_add _)) (by rw [List.drop_zero])
theorem refSame_loop (a b : List SNode) (hlen : a.length < 1000000000) (he : a.length = b.length) : ∀ n i, i + n = a.length → Ev (fun k => r05_Same.l0 k a b (i : Int)) (decide (a.drop i = b.drop i)) := by
  intro n
  induction n with
  | zero =>
    intro i hi
    refine Ev.succ ?_
    simp only [r05_Same.l0]
    refine Ev.neg (by omega) (Ev.some_eq ?_)
    rw [List.drop_of_length_le (by omega), List.drop_of_length_le (by omega)]
    rfl
  | succ n ih =>
    intro i hi
    have hil : i < a.length := by omega
    have hib : i < b.length := by omega
    refine Ev.succ ?_
    simp only [r05_Same.l0]
    refine Ev.pos (by omega) (Ev.pos (by omega) (Ev.pos (by omega) ?_))
    rw [rdNode_at a i hil, rdNode_at b i hib, drop_at a i hil, drop_at b i hib, w64n i (by omega)]
    by_cases h : sameN a[i] b[i] = true
    · have e := (sameN_iff _ _).1 h
      refine Ev.neg ?_ (Ev.val (ih (i + 1) (by omega)) ?_)
      · rw [e]; simp
      · apply decide_eq_decide.2
        rw [e]
        exact ⟨fun hh => by rw [hh], fun hh => by injection hh⟩
    · refine Ev.pos ?_ (Ev.some_eq ?_)
      · unfold sameN at h
        simp only [Bool.and_eq_true, not_and, Bool.not_eq_true, Bool.or_eq_true, Bool.not_eq_true'] at *
        cases h0 : a[i].f0.toList == b[i].f0.toList
        · exact .inl rfl
        · exact .inr (h h0)
      · symm
        apply decide_eq_false
        intro e
        injection e with e _
        exact h ((sameN_iff _ _).2 e)
theorem refSame_ev (a b : List SNode) (hlen : a.length < 1000000000) : Ev (fun k => r05_Same.f k a b) (decide (a = b)) := by
  unfold r05_Same.f
  by_cases he : a.length = b.length
  · exact Ev.pos (by omega) (Ev.val (refSame_loop a b hlen he _ 0 (Nat.zero_add _)) (by rw [List.drop_zero, List.drop_zero]))
  · exact Ev.neg (by omega) (Ev.some_eq (decide_eq_false (fun e => he (by rw [e]))).symm)
theorem refMayL_loop (l : List SNeed) (hl : ∀ x ∈ l, okNeed x = true) (hlen : l.length < 1000000000) : ∀ n i, i + n = l.length → Ev (fun k => r18_May.l0 k l (i : Int)) (!(l.drop i).any badNeed) := by
  intro n
  induction n with
  | zero =>
    intro i hi
    refine Ev.succ ?_
    simp only [r18_May.l0]
    refine Ev.neg (by omega) (Ev.some_eq ?_)
    rw [List.drop_of_length_le (by omega)]
    rfl
  | succ n ih =>
    intro i hi
    have hil : i < l.length := by omega
    refine Ev.succ ?_
    simp only [r18_May.l0]
    refine Ev.pos (by omega) (Ev.pos (by omega) ?_)
    rw [rdNeed_at l i hil, drop_at l i hil, w64n i (by omega), List.any_cons]
    have hok := hl _ (List.getElem_mem hil)
    unfold okNeed at hok
    simp only [Bool.and_eq_true] at hok
    refine Ev.bind (refMayN_ev _ hok.2) ?_
    have hb : badNeed l[i] = (!mayN l[i].f1 || nzN l[i].f0 && !mayN l[i].f0) := rfl
    cases m1 : mayN l[i].f1
    · refine Ev.neg (by simp) (Ev.some_eq ?_)
      rw [hb, m1]; simp
    · refine Ev.pos rfl ?_
      by_cases hz : nzN l[i].f0 = true
      · refine Ev.pos hz (Ev.bind (refMayN_ev _ hok.1) ?_)
        cases m0 : mayN l[i].f0
        · refine Ev.neg (by simp) (Ev.some_eq ?_)
          rw [hb, m1, hz, m0]; simp
        · refine Ev.pos rfl (Ev.val (ih (i + 1) (by omega)) ?_)
          rw [hb, m1, hz, m0]; simp
      · refine Ev.neg hz (Ev.val (ih (i + 1) (by omega)) ?_)
        have hz' : nzN l[i].f0 = false := by simpa using hz
        rw [hb, m1, hz']; simp
theorem refMayL_ev (l : List SNeed) (hl : ∀ x ∈ l, okNeed x = true) (hlen : l.length < 1000000000) : Ev (fun k => r18_May.f k l) (!l.any badNeed) := by
  unfold r18_May.f
  exact Ev.val (refMayL_loop l hl hlen _ 0 (Nat.zero_add _)) rfl
end Go.Proofs.YtjfcmkddeglghaaGreatDoor.G
end
section
namespace Go.Proofs.YtjfcmkddeglghaaGreatDoor.G
open Go.RowKit Gw
set_option linter.unusedVariables false
set_option linter.unusedSimpArgs false
abbrev DMap := List (SNode × Int)
def stepD (d : Int) (level : List SNode) (st : DMap × List SNode) (x : SNeed) : DMap × List SNode :=
  if (lookM st.1 x.f1).isNone && level.any (sameN x.f0) then (st.1 ++ [(x.f1, d)], st.2 ++ [x.f1]) else st
def innerD (l : List SNeed) (d : Int) (level : List SNode) (out : DMap) : DMap × List SNode := l.foldl (stepD d level) (out, [])
def outerD (l : List SNeed) : Nat → Int → List SNode → DMap → Option DMap
  | 0, _, _, _ => none
  | n + 1, d, level, out => if level = [] then some out else outerD l n (d + 1) (innerD l d level out).2 (innerD l d level out).1
end Go.Proofs.YtjfcmkddeglghaaGreatDoor.G
end
section
set_option linter.unusedVariables false
set_option linter.unusedSimpArgs false
namespace Gw
theorem nodup_len {α : Type} [DecidableEq α] : ∀ (l m : List α), l.Nodup → (∀ x ∈ l, x ∈ m) → l.length ≤ m.length := by
  intro l
  induction l with
  | nil => intro m _ _; exact Nat.zero_le _
  | cons a l ih =>
    intro m h hs
    rw [List.nodup_cons] at h
    have ha : a ∈ m := hs a (by simp)
    have h1 := ih (m.erase a) h.2 (fun x hx => (List.mem_erase_of_ne (fun e => h.1 (by rw [← e]; exact hx))).2 (hs x (by simp [hx])))
    have h2 := List.length_erase_of_mem ha
    have h3 : 0 < m.length := List.length_pos_of_mem ha
    simp only [List.length_cons]
    omega
section
variable {α : Type} [DecidableEq α]
def pStep (d : Int) (level : List α) (st : List (α × Int) × List α) (x : α × α) : List (α × Int) × List α :=
  if x.2 ∉ st.1.map Prod.fst ∧ x.1 ∈ level then (st.1 ++ [(x.2, d)], st.2 ++ [x.2]) else st
def pInner (l : List (α × α)) (d : Int) (level : List α) (out : List (α × Int)) : List (α × Int) × List α := l.foldl (pStep d level) (out, [])
def pOuter (l : List (α × α)) : Nat → Int → List α → List (α × Int) → Option (List (α × Int))
  | 0, _, _, _ => none
  | n + 1, d, level, out => if level = [] then some out else pOuter l n (d + 1) (pInner l d level out).2 (pInner l d level out).1
theorem pInner_new (d : Int) (level : List α) : ∀ (l : List (α × α)) (out : List (α × Int)) (nx : List α),
    ∃ new : List α, l.foldl (pStep d level) (out, nx) = (out ++ new.map (·, d), nx ++ new) ∧ new.Nodup ∧
      ∀ y, y ∈ new ↔ (∃ x ∈ l, x.1 ∈ level ∧ x.2 = y) ∧ y ∉ out.map Prod.fst := by
  intro l
  induction l with
  | nil => intro out nx; exact ⟨[], by simp, List.nodup_nil, fun y => by simp⟩
  | cons x l ih =>
    intro out nx
    rw [List.foldl_cons]
    by_cases hc : x.2 ∉ out.map Prod.fst ∧ x.1 ∈ level
    · have e : pStep d level (out, nx) x = (out ++ [(x.2, d)], nx ++ [x.2]) := by unfold pStep; rw [if_pos hc]
      rw [e]
      obtain ⟨new, h1, h2, h3⟩ := ih (out ++ [(x.2, d)]) (nx ++ [x.2])
      refine ⟨x.2 :: new, by rw [h1]; simp, ?_, ?_⟩
      · rw [List.nodup_cons]
        refine ⟨fun h => ?_, h2⟩
        have := ((h3 _).1 h).2
        simp at this
      · intro y
        rw [List.mem_cons, h3]
        constructor
        · rintro (rfl | ⟨⟨z, hz, h4, h5⟩, h6⟩)
          · exact ⟨⟨x, by simp, hc.2, rfl⟩, hc.1⟩
          · exact ⟨⟨z, by simp [hz], h4, h5⟩, fun h => h6 (by rw [List.map_append]; exact List.mem_append_left _ h)⟩
        · rintro ⟨⟨z, hz, h4, h5⟩, h6⟩
          by_cases hy : y = x.2
          · exact .inl hy
          · refine .inr ⟨?_, ?_⟩
            · rcases List.mem_cons.1 hz with rfl | hz
              · exact absurd h5.symm hy
              · exact ⟨z, hz, h4, h5⟩
            · rw [List.map_append, List.mem_append]
              rintro (h | h)
              · exact h6 h
              · simp at h; exact hy h
    · have e : pStep d level (out, nx) x = (out, nx) := by unfold pStep; rw [if_neg hc]
      rw [e]
      obtain ⟨new, h1, h2, h3⟩ := ih out nx
      refine ⟨new, h1, h2, fun y => ?_⟩
      rw [h3]
      constructor
      · rintro ⟨⟨z, hz, h4, h5⟩, h6⟩
        exact ⟨⟨z, by simp [hz], h4, h5⟩, h6⟩
      · rintro ⟨⟨z, hz, h4, h5⟩, h6⟩
        refine ⟨?_, h6⟩
        rcases List.mem_cons.1 hz with rfl | hz
        · exact absurd ⟨by rw [h5]; exact h6, h4⟩ hc
        · exact ⟨z, hz, h4, h5⟩
def rStep (c : α → α → Int) (near met : List α) (acc : List α) (x : α × α) : List α :=
  if x.1 ∈ near ∧ x.2 ∉ met then withS c acc x.2 else acc
def rNext (c : α → α → Int) (l : List (α × α)) (near met : List α) : List α := l.foldl (rStep c near met) []
def rLevels (c : α → α → Int) (l : List (α × α)) : Nat → List α → List α → Option (List (List α))
  | 0, _, _ => none
  | n + 1, near, met => if near = [] then some [] else (rLevels c l n (rNext c l near met) (met ++ rNext c l near met)).map fun r => if rNext c l near met = [] then r else rNext c l near met :: r
variable {c : α → α → Int} {p : α → Prop} (h : TotalOn p c)
include h
theorem rNext_mem (near met : List α) : ∀ (l : List (α × α)) (acc : List α), (∀ x ∈ l, p x.2) → (∀ y ∈ acc, p y) → Sorted c acc →
    Sorted c (l.foldl (rStep c near met) acc) ∧ (∀ y ∈ l.foldl (rStep c near met) acc, p y) ∧
      ∀ y, y ∈ l.foldl (rStep c near met) acc ↔ y ∈ acc ∨ (∃ x ∈ l, x.1 ∈ near ∧ x.2 = y) ∧ y ∉ met := by
  intro l
  induction l with
  | nil => intro acc _ h2 h3; exact ⟨h3, h2, fun y => by simp⟩
  | cons x l ih =>
    intro acc h1 h2 h3
    rw [List.foldl_cons]
    have hx := h1 x (by simp)
    by_cases hc : x.1 ∈ near ∧ x.2 ∉ met
    · have e : rStep c near met acc x = withS c acc x.2 := by unfold rStep; rw [if_pos hc]
      rw [e]
      obtain ⟨a, b, d⟩ := ih (withS c acc x.2) (fun y hy => h1 _ (by simp [hy])) (withS_all h h2 hx) (withS_sorted h h2 hx h3)
      refine ⟨a, b, fun y => ?_⟩
      rw [d, mem_withS h h2 hx]
      constructor
      · rintro ((h4 | rfl) | ⟨⟨z, hz, h4, h5⟩, h6⟩)
        · exact .inl h4
        · exact .inr ⟨⟨x, by simp, hc.1, rfl⟩, hc.2⟩
        · exact .inr ⟨⟨z, by simp [hz], h4, h5⟩, h6⟩
      · rintro (h4 | ⟨⟨z, hz, h4, h5⟩, h6⟩)
        · exact .inl (.inl h4)
        · rcases List.mem_cons.1 hz with rfl | hz
          · exact .inl (.inr h5.symm)
          · exact .inr ⟨⟨z, hz, h4, h5⟩, h6⟩
    · have e : rStep c near met acc x = acc := by unfold rStep; rw [if_neg hc]
      rw [e]
      obtain ⟨a, b, d⟩ := ih acc (fun y hy => h1 _ (by simp [hy])) h2 h3
      refine ⟨a, b, fun y => ?_⟩
      rw [d]
      constructor
      · rintro (h4 | ⟨⟨z, hz, h4, h5⟩, h6⟩)
        · exact .inl h4
        · exact .inr ⟨⟨z, by simp [hz], h4, h5⟩, h6⟩
      · rintro (h4 | ⟨⟨z, hz, h4, h5⟩, h6⟩)
        · exact .inl h4
        · rcases List.mem_cons.1 hz with rfl | hz
          · exact absurd ⟨h4, by rw [h5]; exact h6⟩ hc
          · exact .inr ⟨⟨z, hz, h4, h5⟩, h6⟩
structure Levels (c : α → α → Int) (p : α → Prop) (l : List (α × α)) (d : Int) (near met : List α) (lv : List (List α)) (new : List (α × Int)) : Prop where
  pair : ∀ y v, (y, v) ∈ new ↔ ∃ (i : Nat) (L : List α), lv[i]? = some L ∧ y ∈ L ∧ v = d + i
  lvl : ∀ L ∈ lv, Sorted c L ∧ L ≠ [] ∧ ∀ y ∈ L, p y
  fresh : ∀ L ∈ lv, ∀ y ∈ L, y ∉ met
  one : ∀ (i j : Nat) (L L' : List α) (y : α), lv[i]? = some L → lv[j]? = some L' → y ∈ L → y ∈ L' → i = j
  first : ∀ x ∈ l, x.1 ∈ near → x.2 ∈ met ∨ ∃ L, lv[0]? = some L ∧ x.2 ∈ L
  goes : ∀ (i : Nat) (L : List α) (x : α × α), lv[i]? = some L → x ∈ l → x.1 ∈ L → x.2 ∈ met ∨ ∃ (j : Nat) (L' : List α), j ≤ i + 1 ∧ lv[j]? = some L' ∧ x.2 ∈ L'
  from0 : ∀ L, lv[0]? = some L → ∀ y ∈ L, ∃ x ∈ l, x.1 ∈ near ∧ x.2 = y
  fromS : ∀ (i : Nat) (L L' : List α), lv[i]? = some L → lv[i + 1]? = some L' → ∀ y ∈ L', ∃ x ∈ l, x.1 ∈ L ∧ x.2 = y
  nodup : (new.map Prod.fst).Nodup
theorem joint (l : List (α × α)) (hp : ∀ x ∈ l, p x.2) : ∀ (n : Nat) (d : Int) (level : List α) (out : List (α × Int)) (near met : List α),
    (∀ y, y ∈ level ↔ y ∈ near) → (∀ y, y ∈ out.map Prod.fst ↔ y ∈ met) → (out.map Prod.fst).Nodup → (∀ y ∈ met, y ∈ l.map Prod.snd) →
    (level ≠ [] → l.length + 2 ≤ n + out.length) → 1 ≤ n →
    ∃ new lv, pOuter l n d level out = some (out ++ new) ∧ rLevels c l n near met = some lv ∧ Levels c p l d near met lv new := by
  intro n
  induction n with
  | zero => intro d level out near met _ _ _ _ _ h1; omega
  | succ n ih =>
    intro d level out near met hlv hmet hnd hsub hfuel _
    by_cases hl : level = []
    · have hn : near = [] := by
        cases near with
        | nil => rfl
        | cons a t => have := (hlv a).2 (by simp); rw [hl] at this; simp at this
      refine ⟨[], [], by simp [pOuter, hl], by simp [rLevels, hn], ?_⟩
      subst hn
      exact ⟨fun y v => by simp, by simp, by simp, by simp, by simp, by simp, by simp, by simp, by simp⟩
    · have hn : near ≠ [] := fun hn => by
        cases level with
        | nil => exact hl rfl
        | cons a t => have := (hlv a).1 (by simp); rw [hn] at this; simp at this
      obtain ⟨nw, e1, e2, e3⟩ := pInner_new d level l out []
      obtain ⟨r1, r2, r3⟩ := rNext_mem h near met l [] hp (by simp) List.Pairwise.nil
      have hin : pInner l d level out = (out ++ nw.map (·, d), nw) := by unfold pInner; rw [e1]; simp
      have hrn : l.foldl (rStep c near met) [] = rNext c l near met := rfl
      rw [hrn] at r1 r2 r3
      have hsame : ∀ y, y ∈ nw ↔ y ∈ rNext c l near met := by
        intro y
        rw [e3, r3]
        constructor
        · rintro ⟨⟨x, hx, h1, h2⟩, h3⟩
          exact .inr ⟨⟨x, hx, (hlv _).1 h1, h2⟩, fun hm => h3 ((hmet y).2 hm)⟩
        · rintro (h1 | ⟨⟨x, hx, h1, h2⟩, h3⟩)
          · simp at h1
          · exact ⟨⟨x, hx, (hlv _).2 h1, h2⟩, fun hm => h3 ((hmet y).1 hm)⟩
      have hkeys : (out ++ nw.map (·, d)).map Prod.fst = out.map Prod.fst ++ nw := by
        rw [List.map_append, List.map_map]
        congr 1
        exact List.map_id _
      have hnd2 : ((out ++ nw.map (·, d)).map Prod.fst).Nodup := by
        rw [hkeys, List.nodup_append]
        refine ⟨hnd, e2, fun a ha b hb e => ?_⟩
        subst e
        exact ((e3 a).1 hb).2 ha
      have hsub2 : ∀ y ∈ met ++ rNext c l near met, y ∈ l.map Prod.snd := by
        intro y hy
        rcases List.mem_append.1 hy with hy | hy
        · exact hsub y hy
        · obtain ⟨x, hx, _, h2⟩ := (((r3 y).1 hy).resolve_left (by simp)).1
          exact List.mem_map.2 ⟨x, hx, h2⟩
      have hmet2 : ∀ y, y ∈ (out ++ nw.map (·, d)).map Prod.fst ↔ y ∈ met ++ rNext c l near met := by
        intro y
        rw [hkeys, List.mem_append, List.mem_append, hmet, hsame]
      have hlen : out.length + nw.length ≤ l.length := by
        have := nodup_len ((out ++ nw.map (·, d)).map Prod.fst) (l.map Prod.snd) hnd2 (fun x hx => hsub2 x ((hmet2 x).1 hx))
        simpa using this
      have hf := hfuel hl
      obtain ⟨new, lv, p1, p2, L⟩ := ih (d + 1) nw (out ++ nw.map (·, d)) (rNext c l near met) (met ++ rNext c l near met) hsame hmet2 hnd2 hsub2 (by
        intro hne
        have : 0 < nw.length := List.length_pos_iff.2 hne
        simp only [List.length_append, List.length_map]
        omega) (by omega)
      have q1 : pOuter l (n + 1) d level out = some (out ++ (nw.map (·, d) ++ new)) := by
        simp only [pOuter, if_neg hl, hin]
        rw [p1, List.append_assoc]
      have q2 : rLevels c l (n + 1) near met = some (if rNext c l near met = [] then lv else rNext c l near met :: lv) := by
        simp only [rLevels, if_neg hn, p2]
        rfl
      refine ⟨_, _, q1, q2, ?_⟩
      by_cases hne : rNext c l near met = []
      · have hnw : nw = [] := by
          cases nw with
          | nil => rfl
          | cons a t => have := (hsame a).1 (by simp); rw [hne] at this; simp at this
        rw [if_pos hne]
        subst hnw
        have hlv0 : lv = [] ∧ new = [] := by
          rw [hne] at p2
          have hn1 : 1 ≤ n := by omega
          obtain ⟨m, rfl⟩ : ∃ m, n = m + 1 := ⟨n - 1, by omega⟩
          simp [rLevels] at p2
          simp [pOuter] at p1
          exact ⟨p2, p1⟩
        obtain ⟨rfl, rfl⟩ := hlv0
        refine ⟨fun y v => by simp, by simp, by simp, by simp, ?_, by simp, by simp, by simp, by simp⟩
        intro x hx h1
        left
        cases hm : decide (x.2 ∈ met) with
        | true => exact of_decide_eq_true hm
        | false =>
          have := (r3 x.2).2 (.inr ⟨⟨x, hx, h1, rfl⟩, of_decide_eq_false hm⟩)
          rw [hne] at this
          simp at this
      · rw [if_neg hne]
        have hget : ∀ (i : Nat), (rNext c l near met :: lv)[i + 1]? = lv[i]? := fun i => by simp
        refine ⟨?_, ?_, ?_, ?_, ?_, ?_, ?_, ?_, ?_⟩
        · intro y v
          rw [List.mem_append, L.pair]
          constructor
          · rintro (h1 | ⟨i, M, h1, h2, h3⟩)
            · obtain ⟨z, hz, e⟩ := List.mem_map.1 h1
              injection e with e1 e2
              subst e1 e2
              exact ⟨0, _, rfl, (hsame z).1 hz, by simp⟩
            · exact ⟨i + 1, M, by rw [hget]; exact h1, h2, by rw [h3]; push_cast; omega⟩
          · rintro ⟨i, M, h1, h2, h3⟩
            cases i with
            | zero =>
              simp at h1
              subst h1
              left
              exact List.mem_map.2 ⟨y, (hsame y).2 h2, by rw [h3]; simp⟩
            | succ i =>
              rw [hget] at h1
              exact .inr ⟨i, M, h1, h2, by rw [h3]; push_cast; omega⟩
        · intro M hM
          rcases List.mem_cons.1 hM with rfl | hM
          · exact ⟨r1, hne, r2⟩
          · exact L.lvl M hM
        · intro M hM y hy
          rcases List.mem_cons.1 hM with rfl | hM
          · exact (((r3 y).1 hy).resolve_left (by simp)).2
          · exact fun h1 => L.fresh M hM y hy (List.mem_append_left _ h1)
        · intro i j M M' y h1 h2 h3 h4
          cases i with
          | zero =>
            simp at h1
            subst h1
            cases j with
            | zero => rfl
            | succ j =>
              rw [hget] at h2
              exact absurd (List.mem_append_right _ h3) (L.fresh M' (List.mem_of_getElem? h2) y h4)
          | succ i =>
            rw [hget] at h1
            cases j with
            | zero =>
              simp at h2
              subst h2
              exact absurd (List.mem_append_right _ h4) (L.fresh M (List.mem_of_getElem? h1) y h3)
            | succ j =>
              rw [hget] at h2
              rw [L.one i j M M' y h1 h2 h3 h4]
        · intro x hx h1
          by_cases hm : x.2 ∈ met
          · exact .inl hm
          · exact .inr ⟨_, rfl, (r3 x.2).2 (.inr ⟨⟨x, hx, h1, rfl⟩, hm⟩)⟩
        · intro i M x h1 hx h2
          have back : (x.2 ∈ met ++ rNext c l near met) → x.2 ∈ met ∨ ∃ (j : Nat) (L' : List α), j ≤ i + 1 ∧ (rNext c l near met :: lv)[j]? = some L' ∧ x.2 ∈ L' := by
            intro hm
            rcases List.mem_append.1 hm with hm | hm
            · exact .inl hm
            · exact .inr ⟨0, _, by omega, rfl, hm⟩
          cases i with
          | zero =>
            simp at h1
            subst h1
            rcases L.first x hx h2 with hm | ⟨M', h3, h4⟩
            · exact back hm
            · exact .inr ⟨1, M', by omega, by rw [hget]; exact h3, h4⟩
          | succ i =>
            rw [hget] at h1
            rcases L.goes i M x h1 hx h2 with hm | ⟨j, M', h3, h4, h5⟩
            · exact back hm
            · exact .inr ⟨j + 1, M', by omega, by rw [hget]; exact h4, h5⟩
        · intro M h1 y hy
          simp at h1
          subst h1
          exact ((((r3 y).1 hy).resolve_left (by simp)).1)
        · intro i M M' h1 h2 y hy
          rw [hget] at h2
          cases i with
          | zero =>
            simp at h1
            subst h1
            exact L.from0 M' h2 y hy
          | succ i =>
            rw [hget] at h1
            exact L.fromS i M M' h1 h2 y hy
        · rw [List.map_append, List.map_map, List.nodup_append]
          have e : nw.map (Prod.fst ∘ fun x => (x, d)) = nw := List.map_id _
          rw [e]
          refine ⟨e2, L.nodup, fun a ha b hb e => ?_⟩
          subst e
          obtain ⟨⟨y, v⟩, hq, rfl⟩ := List.mem_map.1 hb
          obtain ⟨i, M, h1, h2, _⟩ := (L.pair y v).1 hq
          exact L.fresh M (List.mem_of_getElem? h1) y h2 (List.mem_append_right _ ((hsame y).1 ha))
end
end Gw
end
section
set_option linter.unusedVariables false
set_option linter.unusedSimpArgs false
set_option linter.unusedSectionVars false
namespace Gw
section
variable {α : Type} [DecidableEq α]
def depthOf : List (List α) → α → Nat
  | [], _ => 0
  | L :: lv, y => if y ∈ L then 1 else if depthOf lv y = 0 then 0 else depthOf lv y + 1
theorem depthOf_some : ∀ (lv : List (List α)) (y : α) (i : Nat), depthOf lv y = i + 1 → ∃ L, lv[i]? = some L ∧ y ∈ L := by
  intro lv
  induction lv with
  | nil => intro y i h; simp [depthOf] at h
  | cons L lv ih =>
    intro y i h
    unfold depthOf at h
    split at h
    · rename_i hy
      obtain rfl : i = 0 := by omega
      exact ⟨L, rfl, hy⟩
    · split at h
      · omega
      · obtain ⟨j, rfl⟩ : ∃ j, i = j + 1 := ⟨i - 1, by omega⟩
        obtain ⟨M, h1, h2⟩ := ih y j (by omega)
        exact ⟨M, by simpa using h1, h2⟩
theorem depthOf_zero : ∀ (lv : List (List α)) (y : α), depthOf lv y = 0 ↔ ∀ L ∈ lv, y ∉ L := by
  intro lv
  induction lv with
  | nil => intro y; simp [depthOf]
  | cons L lv ih =>
    intro y
    unfold depthOf
    split
    · rename_i hy; simp [hy]
    · rename_i hy
      split
      · rename_i h0; simp [hy, (ih y).1 h0]
        exact (ih y).1 h0
      · rename_i h0
        simp only [List.mem_cons]
        constructor
        · intro h; omega
        · intro h; exact absurd ((ih y).2 fun M hM => h M (.inr hM)) h0
def minL (c : α → α → Int) : List α → Option α
  | [] => none
  | a :: t => some (t.foldl (fun m x => if c x m < 0 then x else m) a)
def parents (l : List (α × α)) (far : α → Int) (i : Nat) (y : α) : List α := (l.filter fun x => decide (x.2 = y) && decide (far x.1 = (i : Int))).map Prod.fst
def pChain (c : α → α → Int) (l : List (α × α)) (far : α → Int) : Nat → α → Option (List α)
  | 0, y => some [y]
  | i + 1, y => (minL c (parents l far (i + 1) y)).bind fun m => (pChain c l far i m).map (· ++ [y])
def rChain (l : List (α × α)) (lv : List (List α)) : Nat → α → Option (List α)
  | 0, _ => none
  | k + 1, y => if depthOf lv y ≤ 1 then some [y] else (lv[depthOf lv y - 2]?).bind fun L => match L.find? (fun a => decide ((a, y) ∈ l)) with
    | some a => (rChain l lv k a).map (· ++ [y])
    | none => some []
variable {c : α → α → Int} {p : α → Prop} (h : TotalOn p c)
include h
theorem minFold : ∀ (t : List α) (a : α), p a → (∀ x ∈ t, p x) → (t.foldl (fun m x => if c x m < 0 then x else m) a = a ∨ t.foldl (fun m x => if c x m < 0 then x else m) a ∈ t) ∧
    ¬ c a (t.foldl (fun m x => if c x m < 0 then x else m) a) < 0 ∧ ∀ x ∈ t, ¬ c x (t.foldl (fun m x => if c x m < 0 then x else m) a) < 0 := by
  intro t
  induction t with
  | nil => intro a _ _; exact ⟨.inl rfl, h.irrefl a, by simp⟩
  | cons x t ih =>
    intro a ha ht
    have hx := ht x (by simp)
    rw [List.foldl_cons]
    by_cases hc : c x a < 0
    · rw [if_pos hc]
      obtain ⟨h1, h2, h3⟩ := ih x hx (fun y hy => ht _ (by simp [hy]))
      refine ⟨.inr ?_, ?_, ?_⟩
      · rcases h1 with h1 | h1
        · rw [h1]; simp
        · simp [h1]
      · intro hlt
        have pm : p (t.foldl (fun m x => if c x m < 0 then x else m) x) := by
          rcases h1 with h1 | h1
          · rw [h1]; exact hx
          · exact ht _ (by simp [h1])
        exact h2 (h.trans _ _ _ hx ha pm hc hlt)
      · intro y hy
        rcases List.mem_cons.1 hy with rfl | hy
        · exact h2
        · exact h3 y hy
    · rw [if_neg hc]
      obtain ⟨h1, h2, h3⟩ := ih a ha (fun y hy => ht _ (by simp [hy]))
      refine ⟨?_, h2, ?_⟩
      · rcases h1 with h1 | h1
        · exact .inl h1
        · exact .inr (by simp [h1])
      · intro y hy
        rcases List.mem_cons.1 hy with rfl | hy
        · intro hlt
          have pm : p (t.foldl (fun m x => if c x m < 0 then x else m) a) := by
            rcases h1 with h1 | h1
            · rw [h1]; exact ha
            · exact ht _ (by simp [h1])
          rcases h.lt_or y a hx ha with h4 | h4 | h4
          · exact hc h4
          · rw [h4] at hlt; exact h2 hlt
          · exact h2 (h.trans _ _ _ ha hx pm h4 hlt)
        · exact h3 y hy
theorem minL_some : ∀ (L : List α), (∀ x ∈ L, p x) → L ≠ [] → ∃ m, minL c L = some m ∧ m ∈ L ∧ ∀ x ∈ L, ¬ c x m < 0 := by
  intro L hL hne
  cases L with
  | nil => exact absurd rfl hne
  | cons a t =>
    obtain ⟨h1, h2, h3⟩ := minFold h t a (hL a (by simp)) (fun x hx => hL x (by simp [hx]))
    refine ⟨_, rfl, ?_, ?_⟩
    · rcases h1 with h1 | h1
      · rw [h1]; simp
      · simp [h1]
    · intro x hx
      rcases List.mem_cons.1 hx with rfl | hx
      · exact h2
      · exact h3 x hx
theorem find_least (q : α → Bool) : ∀ (L : List α), Sorted c L → ∀ m, L.find? q = some m → m ∈ L ∧ q m = true ∧ ∀ x ∈ L, q x = true → ¬ c x m < 0 := by
  intro L
  induction L with
  | nil => intro _ m hm; simp at hm
  | cons a L ih =>
    intro hs m hm
    unfold Sorted at hs
    rw [List.pairwise_cons] at hs
    rw [List.find?_cons] at hm
    cases hq : q a with
    | true =>
      rw [hq] at hm
      injection hm with hm
      subst hm
      refine ⟨by simp, hq, fun x hx _ => ?_⟩
      rcases List.mem_cons.1 hx with rfl | hx
      · exact h.irrefl _
      · exact h.asymm (hs.1 x hx)
    | false =>
      rw [hq] at hm
      obtain ⟨h1, h2, h3⟩ := ih hs.2 m hm
      refine ⟨by simp [h1], h2, fun x hx hqx => ?_⟩
      rcases List.mem_cons.1 hx with rfl | hx
      · rw [hq] at hqx; simp at hqx
      · exact h3 x hx hqx
structure Told (c : α → α → Int) (p : α → Prop) (l : List (α × α)) (z : α) (lv : List (List α)) (out : List (α × Int)) : Prop where
  lev : Levels c p l 1 [z] [] lv out
  order : TotalOn p c
omit h
variable {l : List (α × α)} {z : α} {lv : List (List α)} {out : List (α × Int)}
theorem lookup_mem : ∀ (out : List (α × Int)), (out.map Prod.fst).Nodup → ∀ y v, out.lookup y = some v ↔ (y, v) ∈ out := by
  intro out
  induction out with
  | nil => intro _ y v; simp
  | cons q out ih =>
    intro hnd y v
    obtain ⟨k, u⟩ := q
    rw [List.map_cons, List.nodup_cons] at hnd
    rw [List.lookup_cons]
    by_cases hk : y = k
    · subst hk
      simp only [beq_self_eq_true]
      constructor
      · intro e; injection e with e; subst e; simp
      · intro hm
        rcases List.mem_cons.1 hm with e | hm
        · injection e with _ e; rw [e]
        · exact absurd (List.mem_map.2 ⟨_, hm, rfl⟩) hnd.1
    · have hb : (y == k) = false := by simpa using hk
      simp only [hb]
      rw [ih hnd.2]
      constructor
      · intro hm; exact List.mem_cons_of_mem _ hm
      · intro hm
        rcases List.mem_cons.1 hm with e | hm
        · injection e with e _; exact absurd e hk
        · exact hm
theorem Told.at (t : Told c p l z lv out) {i : Nat} {L : List α} {y : α} (h1 : lv[i]? = some L) (h2 : y ∈ L) : depthOf lv y = i + 1 := by
  cases hd : depthOf lv y with
  | zero => exact absurd h2 ((depthOf_zero lv y).1 hd L (List.mem_of_getElem? h1))
  | succ j =>
    obtain ⟨M, h3, h4⟩ := depthOf_some lv y j hd
    rw [t.lev.one i j L M y h1 h3 h2 h4]
theorem Told.mem (t : Told c p l z lv out) (y : α) (v : Int) : (y, v) ∈ out ↔ depthOf lv y ≠ 0 ∧ v = depthOf lv y := by
  rw [t.lev.pair]
  constructor
  · rintro ⟨i, L, h1, h2, h3⟩
    have := t.at h1 h2
    omega
  · rintro ⟨h1, h2⟩
    obtain ⟨i, hi⟩ : ∃ i, depthOf lv y = i + 1 := ⟨depthOf lv y - 1, by omega⟩
    obtain ⟨L, h3, h4⟩ := depthOf_some lv y i hi
    exact ⟨i, L, h3, h4, by omega⟩
theorem Told.look (t : Told c p l z lv out) (y : α) : out.lookup y = if depthOf lv y = 0 then none else some (depthOf lv y : Int) := by
  split
  · rename_i h0
    cases hl : out.lookup y with
    | none => rfl
    | some v => exact absurd h0 ((t.mem y v).1 ((lookup_mem out t.lev.nodup y v).1 hl)).1
  · rename_i h0
    exact (lookup_mem out t.lev.nodup y _).2 ((t.mem y _).2 ⟨h0, rfl⟩)
theorem Told.far (t : Told c p l z lv out) (y : α) : (out.lookup y).getD 0 = (depthOf lv y : Int) := by
  rw [t.look]
  split
  · rename_i h0; rw [h0]; rfl
  · rfl
theorem Told.good (t : Told c p l z lv out) {y : α} (h1 : depthOf lv y ≠ 0) : p y := by
  obtain ⟨i, hi⟩ : ∃ i, depthOf lv y = i + 1 := ⟨depthOf lv y - 1, by omega⟩
  obtain ⟨L, h3, h4⟩ := depthOf_some lv y i hi
  exact (t.lev.lvl L (List.mem_of_getElem? h3)).2.2 y h4
theorem Told.chain (t : Told c p l z lv out) : ∀ (i : Nat) (y : α), depthOf lv y = i + 1 →
    ∃ r, pChain c l (fun y => (out.lookup y).getD 0) i y = some r ∧ (∀ k, rChain l lv (i + 1 + k) y = some r) ∧ r.length = i + 1 := by
  intro i
  induction i with
  | zero =>
    intro y hy
    refine ⟨[y], rfl, fun k => ?_, rfl⟩
    rw [show 0 + 1 + k = k + 1 from by omega]
    simp only [rChain]
    rw [if_pos (by omega)]
  | succ i ih =>
    intro y hy
    obtain ⟨L', hL', hyL'⟩ := depthOf_some lv y (i + 1) hy
    have hlt : i + 1 < lv.length := (List.getElem?_eq_some_iff.1 hL').1
    obtain ⟨L, hL⟩ : ∃ L, lv[i]? = some L := ⟨lv[i]'(by omega), List.getElem?_eq_getElem (by omega)⟩
    obtain ⟨hs, _, hpL⟩ := t.lev.lvl L (List.mem_of_getElem? hL)
    have hpar : ∀ a, a ∈ parents l (fun y => (out.lookup y).getD 0) (i + 1) y ↔ a ∈ L ∧ (a, y) ∈ l := by
      intro a
      unfold parents
      rw [List.mem_map]
      simp only [List.mem_filter, Bool.and_eq_true, decide_eq_true_eq, t.far]
      constructor
      · rintro ⟨⟨x1, x2⟩, ⟨h1, h2, h3⟩, rfl⟩
        simp only at h2 h3 h1
        subst h2
        obtain ⟨M, h4, h5⟩ := depthOf_some lv x1 i (by omega)
        rw [hL] at h4
        injection h4 with h4
        subst h4
        exact ⟨h5, h1⟩
      · rintro ⟨h1, h2⟩
        exact ⟨(a, y), ⟨h2, rfl, by rw [t.at hL h1]⟩, rfl⟩
    obtain ⟨x, hx, hx1, hx2⟩ := t.lev.fromS i L L' hL hL' y hyL'
    have hne : parents l (fun y => (out.lookup y).getD 0) (i + 1) y ≠ [] := by
      intro e
      have := (hpar x.1).2 ⟨hx1, by rw [← hx2]; exact hx⟩
      rw [e] at this
      simp at this
    obtain ⟨m, hm1, hm2, hm3⟩ := minL_some t.order _ (fun a ha => hpL a ((hpar a).1 ha).1) hne
    obtain ⟨hmL, hml⟩ := (hpar m).1 hm2
    obtain ⟨m', hm'⟩ : ∃ m', L.find? (fun a => decide ((a, y) ∈ l)) = some m' := by
      cases hf : L.find? (fun a => decide ((a, y) ∈ l)) with
      | some m' => exact ⟨m', rfl⟩
      | none =>
        have := List.find?_eq_none.1 hf m hmL
        simp at this
        exact absurd hml this
    obtain ⟨hf1, hf2, hf3⟩ := find_least t.order _ L hs m' hm'
    have heq : m = m' := by
      rcases t.order.lt_or m m' (hpL _ hmL) (hpL _ hf1) with h1 | h1 | h1
      · exact absurd h1 (hf3 m hmL (by simpa using hml))
      · exact h1
      · exact absurd h1 (hm3 m' ((hpar m').2 ⟨hf1, by simpa using hf2⟩))
    subst heq
    obtain ⟨r, h1, h2, h3⟩ := ih m (t.at hL hmL)
    refine ⟨r ++ [y], ?_, fun k => ?_, by simp [h3]⟩
    · simp only [pChain]
      rw [hm1]
      simp only [Option.bind_some, h1, Option.map_some]
    · rw [show i + 1 + 1 + k = (i + 1 + k) + 1 from by omega]
      simp only [rChain]
      rw [if_neg (by omega), hy, show i + 1 + 1 - 2 = i from by omega, hL]
      simp only [Option.bind_some, hm', h2, Option.map_some]
theorem Told.all (t : Told c p l z lv out) (r : List (α × Int)) (hs : Sorted c (r.map Prod.fst)) (hm : ∀ q, q ∈ r ↔ q ∈ out) :
    r = (setS c lv.flatten).map fun y => (y, (depthOf lv y : Int)) := by
  have hpf : ∀ y ∈ lv.flatten, p y := by
    intro y hy
    obtain ⟨L, hL, hy⟩ := List.mem_flatten.1 hy
    exact (t.lev.lvl L hL).2.2 y hy
  have hfl : ∀ y, y ∈ lv.flatten ↔ depthOf lv y ≠ 0 := by
    intro y
    rw [List.mem_flatten, Ne, depthOf_zero]
    constructor
    · rintro ⟨L, h1, h2⟩ h3; exact h3 L h1 h2
    · intro h3
      cases hd : depthOf lv y with
      | zero => exact absurd ((depthOf_zero lv y).1 hd) h3
      | succ i =>
        obtain ⟨L, h1, h2⟩ := depthOf_some lv y i hd
        exact ⟨L, List.mem_of_getElem? h1, h2⟩
  have e1 : r.map Prod.fst = setS c lv.flatten := by
    refine sorted_ext t.order hs (setS_sorted t.order hpf) fun y => ?_
    rw [mem_setS t.order hpf, hfl, List.mem_map]
    constructor
    · rintro ⟨⟨a, v⟩, h1, rfl⟩
      exact ((t.mem a v).1 ((hm _).1 h1)).1
    · intro h1
      exact ⟨(y, _), (hm _).2 ((t.mem y _).2 ⟨h1, rfl⟩), rfl⟩
  rw [← e1, List.map_map]
  conv => lhs; rw [← List.map_id r]
  apply List.map_congr_left
  intro q hq
  obtain ⟨a, v⟩ := q
  have := ((t.mem a v).1 ((hm _).1 hq)).2
  simp [this]
theorem told_of (ho : TotalOn p c) (l : List (α × α)) (z : α) (hp : ∀ x ∈ l, p x.2) : ∃ lv out, pOuter l (l.length + 2) 1 [z] [] = some out ∧ rLevels c l (l.length + 2) [z] [] = some lv ∧ Told c p l z lv out := by
  obtain ⟨new, lv, h1, h2, h3⟩ := joint ho l hp (l.length + 2) 1 [z] [] [z] [] (fun _ => Iff.rfl) (fun _ => by simp) (by simp) (by simp) (by simp) (by omega)
  exact ⟨lv, new, by simpa using h1, h2, ⟨h3, ho⟩⟩
end
end Gw
end
section
namespace Go.Proofs.YtjfcmkddeglghaaGreatDoor.G
open Go.RowKit Gw
set_option linter.unusedVariables false
set_option linter.unusedSimpArgs false
abbrev SDeep := S46
def zN : SNode := ⟨⟨#[]⟩, ⟨#[]⟩⟩
def prs (l : List SNeed) : List (SNode × SNode) := l.map fun x => (x.f0, x.f1)
theorem lookI_eq : ∀ (l : DMap) (x : SNode) (i : Nat), (lookI l x i).map (·.2) = l.lookup x := by
  intro l
  induction l with
  | nil => intro x i; rfl
  | cons p l ih =>
    intro x i
    obtain ⟨k, v⟩ := p
    unfold lookI
    rw [List.lookup_cons, sameN_eq]
    by_cases h : x = k
    · subst h; simp
    · have hb : (x == k) = false := by simpa using h
      simp only [hb, decide_eq_false h]
      exact ih x (i + 1)
theorem lookM_eq (l : DMap) (x : SNode) : lookM l x = l.lookup x := lookI_eq l x 0
theorem lookup_none {l : DMap} {x : SNode} : (l.lookup x).isNone = decide (x ∉ l.map Prod.fst) := by
  induction l with
  | nil => rfl
  | cons p l ih =>
    obtain ⟨k, v⟩ := p
    rw [List.lookup_cons]
    by_cases h : x = k
    · subst h; simp
    · have hb : (x == k) = false := by simpa using h
      simp only [hb]
      rw [ih]
      apply decide_eq_decide.2
      simp [h]
theorem any_same (level : List SNode) (x : SNode) : level.any (sameN x) = decide (x ∈ level) := by
  induction level with
  | nil => rfl
  | cons y l ih =>
    rw [List.any_cons, ih, sameN_eq, ← Bool.decide_or]
    apply decide_eq_decide.2
    simp
theorem stepD_eq (d : Int) (level : List SNode) (st : DMap × List SNode) (x : SNeed) : stepD d level st x = pStep d level st (x.f0, x.f1) := by
  unfold stepD pStep
  rw [lookM_eq, lookup_none, any_same]
  rw [← Bool.decide_and]
  simp only [decide_eq_true_eq]
theorem innerD_eq (l : List SNeed) (d : Int) (level : List SNode) (out : DMap) : innerD l d level out = pInner (prs l) d level out := by
  unfold innerD pInner prs
  rw [List.foldl_map]
  congr 1
  funext st x
  exact stepD_eq d level st x
theorem outerD_eq (l : List SNeed) : ∀ (n : Nat) (d : Int) (level : List SNode) (out : DMap), outerD l n d level out = pOuter (prs l) n d level out := by
  intro n
  induction n with
  | zero => intro d level out; rfl
  | succ n ih =>
    intro d level out
    unfold outerD pOuter
    rw [innerD_eq, ih]
def depsOf (r : DMap) : List SDeep := (setS ndC (r.map Prod.fst)).map fun y => ⟨y, (lookM r y).getD 0⟩
theorem deps_unique {r : DMap} (hn : (r.map Prod.fst).Nodup) (hg : ∀ y ∈ r.map Prod.fst, goodN y) (ys : List SDeep) (hs : Sorted ndC (ys.map fun q => q.f0)) (hm : ∀ q : SDeep, q ∈ ys ↔ (q.f0, q.f1) ∈ r) : ys = depsOf r := by
  have e1 : ys.map (fun q => q.f0) = setS ndC (r.map Prod.fst) := by
    refine sorted_ext ndC_total hs (setS_sorted ndC_total hg) fun y => ?_
    rw [mem_setS ndC_total hg, List.mem_map, List.mem_map]
    constructor
    · rintro ⟨q, h1, rfl⟩
      exact ⟨_, (hm q).1 h1, rfl⟩
    · rintro ⟨⟨y, v⟩, h1, rfl⟩
      exact ⟨⟨y, v⟩, (hm ⟨y, v⟩).2 h1, rfl⟩
  unfold depsOf
  rw [← e1, List.map_map]
  conv => lhs; rw [← List.map_id ys]
  apply List.map_congr_left
  intro q hq
  have := (lookup_mem r hn q.f0 q.f1).2 ((hm q).1 hq)
  simp only [Function.comp, lookM_eq, this, Option.getD_some, id]
theorem good_to {l : List SNeed} (hok : ∀ x ∈ l, okNeed x = true) (hb : l.any badNeed = false) : ∀ x ∈ prs l, goodN x.2 := by
  intro x hx
  obtain ⟨y, hy, rfl⟩ := List.mem_map.1 hx
  have h1 := hok y hy
  unfold okNeed at h1
  simp only [Bool.and_eq_true] at h1
  have h2 := List.any_eq_false.1 hb y hy
  unfold badNeed at h2
  refine ⟨h1.2, ?_⟩
  cases hm : mayN y.f1
  · rw [hm] at h2; simp at h2
  · rfl
theorem told_needs {l : List SNeed} (hok : ∀ x ∈ l, okNeed x = true) (hb : l.any badNeed = false) : ∃ lv out, outerD l (l.length + 2) 1 [zN] [] = some out ∧ rLevels ndC (prs l) (l.length + 2) [zN] [] = some lv ∧ Gw.Told ndC goodN (prs l) zN lv out := by
  obtain ⟨lv, out, h1, h2, h3⟩ := told_of ndC_total (prs l) zN (good_to hok hb)
  have e : (prs l).length = l.length := by simp [prs]
  rw [e] at h1 h2
  exact ⟨lv, out, by rw [outerD_eq]; exact h1, h2, h3⟩
end Go.Proofs.YtjfcmkddeglghaaGreatDoor.G
end
section
namespace Go.Proofs.YtjfcmkddeglghaaGreatDoor.G
open Go.RowKit Gw Go.Proofs.YtjfcmkddeglghaaGreatDoorW.PrintWords Go.Proofs.YtjfcmkddeglghaaGreatDoorW.PrintLast
set_option linter.unusedVariables false
set_option linter.unusedSimpArgs false
theorem reps_lit {α : Type} {R : α → List Value → Prop} {size : Nat} (enc : α → List Value) (xs : List α) (h : ∀ x ∈ xs, R x (enc x)) (hs : ∀ x ∈ xs, (enc x).length = size) : Reps R size xs (xs.flatMap enc) := by
  have go : ∀ n, n ≤ xs.length → Reps R size (xs.take n) ((xs.take n).flatMap enc) := by
    intro n
    induction n with
    | zero => intro _; simp only [List.take_zero, List.flatMap_nil]; exact Reps.none _ _
    | succ n ih =>
      intro hn
      have e : xs.take (n + 1) = xs.take n ++ [xs[n]] := by rw [List.take_add_one, List.getElem?_eq_getElem (by omega)]; rfl
      rw [e, List.flatMap_append]
      have hy : xs[n] ∈ xs := List.getElem_mem _
      have := (ih (by omega)).snoc (h _ hy) (hs _ hy)
      simpa using this
  have := go xs.length (Nat.le_refl _)
  rwa [List.take_length] at this
theorem R_lit0 {α : Type} (d : Kd α) (enc : α → List Value) (henc : ∀ w base ok x, d.M w base ok x (enc x)) (e : TypeId) (W : World) (base : Nat) (xs : List α) (ok : Nat → Prop) (hb : base ≤ W.heap.size) (hm : xs.length ≤ 9223372036854775807) (hok : ok W.heap.size) :
    d.R e (W.alloc (.cells (xs.flatMap enc).toArray e)) base ok (.slice (some ⟨W.heap.size, 0, none⟩) xs.length xs.length) xs := by
  have hrep : Reps (d.M W base (fun _ => False)) d.sz xs (xs.flatMap enc) := reps_lit enc xs (fun x _ => henc _ _ _ x) (fun x _ => d.K_len (d.K_of_M (henc W base (fun _ => False) x)))
  refine ⟨fun k hk => ?_, xs.flatMap enc, ?_, ?_⟩
  · have : W.heap.size = k := by simpa [Value.ownBlock] using hk
    subst this
    exact hok
  · have h2 := World.ownsRow_lit (base := base) (e := e) (size := d.sz) W (xs.flatMap enc).toArray xs.length hb (by simpa [maxLen] using hm) (by simpa using hrep.1)
    simpa using h2
  · exact hrep.imp_ (fun p c hp => d.M_mono (fun k hk => hk.elim) (Kd.M_below hp ((Below.refl _ _).alloc (Nat.le_refl _) _)))
end Go.Proofs.YtjfcmkddeglghaaGreatDoor.G
end
section
namespace Go.Proofs.YtjfcmkddeglghaaGreatDoor.G
open Go.RowKit Gw Go.Proofs.YtjfcmkddeglghaaGreatDoorW.PrintWords Go.Proofs.YtjfcmkddeglghaaGreatDoorW.PrintLast Go.Proofs.YtjfcmkddeglghaaGreatDoorW.PrintMore
set_option linter.unusedVariables false
set_option linter.unusedSimpArgs false
def r19_Levels.f (l : List SNeed) : Option (List (List SNode)) :=
  if (l.all okNeed && l.all (fun x => mayN x.f1) && decide (l.length ≤ 1000)) = true then rLevels ndC (prs l) (l.length + 2) [zN] [] else none
structure LSt (w : World) (out : List (List SNode)) (v3 : Value) (met : List SNode) (v4 : Value) (near : List SNode) (v5 : Value) (wx : World) : Prop where
  o : Kd.S (Kd.slice 24 k24) 31 wx w.heap.size (fun k => True ∧ some k ≠ v4.ownBlock) v3 out
  m : Kd.R k24 24 wx w.heap.size (fun _ => True) v4 met
  a : Kd.R k24 24 wx w.heap.size (fun k => True ∧ some k ≠ v4.ownBlock) v5 near
  b : Below w.heap.size w wx
structure LMid (w : World) (out : List (List SNode)) (v3 : Value) (met : List SNode) (v4 : Value) (next : List SNode) (v6 : Value) (wx : World) : Prop where
  o : Kd.S (Kd.slice 24 k24) 31 wx w.heap.size (fun k => (True ∧ some k ≠ v6.ownBlock) ∧ some k ≠ v4.ownBlock) v3 out
  m : Kd.R k24 24 wx w.heap.size (fun _ => True) v4 met
  x : Kd.R k24 24 wx w.heap.size (fun k => True ∧ some k ≠ v4.ownBlock) v6 next
  b : Below w.heap.size w wx
section
variable {w wx w1 : World} {out : List (List SNode)} {met near next : List SNode} {v3 v4 v5 v6 v1 : Value} {p : SNode}
theorem LSt.calm (h : LSt w out v3 met v4 near v5 wx) (hb : Below wx.heap.size wx w1) : LSt w out v3 met v4 near v5 w1 :=
  ⟨Kd.S_below h.o hb, Kd.R_below h.m hb, Kd.R_below h.a hb, below_then h.b h.b.size hb⟩
theorem LSt.mid (h : LSt w out v3 met v4 near v5 wx) (hb : Below wx.heap.size wx w1) (hx : Kd.R k24 24 w1 wx.heap.size (fun _ => True) v6 next) : LMid w out v3 met v4 next v6 w1 := by
  have hx0 := Kd.R_base hx
  refine ⟨Kd.S_mono (Kd.S_below (Kd.S_bound h.o) hb) (fun k hk => ⟨⟨trivial, fun e => ?_⟩, hk.1.2⟩), Kd.R_below h.m hb, Kd.R_reok rfl (Kd.R_lower hx h.b.size) (fun k hk => ⟨trivial, fun e => ?_⟩), below_then h.b h.b.size hb⟩
  · have := hx0 k e.symm
    have := hk.2.2.1
    omega
  · have := hx0 k hk
    have := Kd.R_lt h.m k e.symm
    omega
theorem LMid.app (h : LMid w out v3 met v4 next v6 wx) (ho : Kd.R k24 24 w1 w.heap.size (fun _ => True) v1 (met ++ [p])) (hb : Below w.heap.size w w1) (hg : wx.grownBy w1 v4.ownBlock)
    (hat : v1.ownBlock = v4.ownBlock ∨ ∃ b, v1.ownBlock = some b ∧ wx.heap.size ≤ b) : LMid w out v3 (met ++ [p]) v1 next v6 w1 :=
  ⟨Kd.S_after h.o hg hat, ho, Kd.R_after h.x hg hat, hb⟩
theorem LMid.fin (h : LMid w out v3 met v4 next v6 wx) : LSt w out v3 met v4 next v6 wx := ⟨Kd.S_mono h.o (fun k hk => ⟨trivial, hk.2⟩), h.m, h.x, h.b⟩
theorem LMid.put (h : LMid w out v3 met v4 next v6 wx) (ho : Kd.S (Kd.slice 24 k24) 31 w1 w.heap.size (fun k => True ∧ some k ≠ v4.ownBlock) v1 (out ++ [next])) (hb : Below w.heap.size w w1) (hg : wx.grownBy w1 v3.ownBlock) :
    LSt w (out ++ [next]) v1 met v4 next v6 w1 := by
  have h3 : ∀ k, v3.ownBlock = some k → (True ∧ some k ≠ v6.ownBlock) ∧ some k ≠ v4.ownBlock := fun k hk => (Kd.S_R h.o).1 k hk
  refine ⟨ho, Kd.R_mono (Kd.R_grown (Kd.R_tight rfl h.m) hg (fun k hk e => ?_)) (fun _ _ => trivial), Kd.R_mono (Kd.R_grown (Kd.R_tight2 rfl h.x) hg (fun k hk e => ?_)) (fun k hk => hk.2), hb⟩
  · exact (h3 k e.symm).2 hk
  · exact (h3 k e.symm).1.2 hk.1
end
theorem rStep_len (near met : List SNode) : ∀ (l : List (SNode × SNode)) (acc : List SNode), (l.foldl (rStep ndC near met) acc).length ≤ acc.length + l.length := by
  intro l
  induction l with
  | nil => intro acc; simp
  | cons x l ih =>
    intro acc
    rw [List.foldl_cons]
    have := ih (rStep ndC near met acc x)
    have h2 : (rStep ndC near met acc x).length ≤ acc.length + 1 := by
      unfold rStep
      split
      · exact withS_len' acc x.2
      · omega
    simp only [List.length_cons]
    omega
def LvPost (r : List (List SNode)) (w : World) (e : Ending) (w' : World) : Prop := ∃ v0_ : Value, e = .returned (v0_) ∧ Kd.S (Kd.slice 24 k24) 31 w' w.heap.size (fun _ => True) v0_ r ∧ Below w.heap.size w w'
set_option maxHeartbeats 1000000 in
set_option maxRecDepth 1000000 in
theorem levels_walk (A0 : Option Addr) (c0 : Nat) (l : List SNeed) (r : List (List SNode)) (w : World) (hr0 : Kd.C k49 w A0 l.length l) (hc0 : l.length ≤ c0) (hok : ∀ x ∈ l, okNeed x = true) (hmay : ∀ x ∈ l, mayN x.f1 = true) (hl1000 : l.length ≤ 1000) (h : rLevels ndC (prs l) (l.length + 2) [zN] [] = some r) :
    Calls Tryz.prog 24 #[.slice A0 l.length c0] w (LvPost r w) := by
  have HR := Aside0.mk hr0
  have H := Aside0.mk h
  have HG : Aside0 (∀ x ∈ l, goodN x.f1) := ⟨fun x hx => ⟨by have := hok x hx; unfold okNeed at this; simp only [Bool.and_eq_true] at this; exact this.2, hmay x hx⟩⟩
  clear hr0 h hok hmay
  go_enter Tryz.func24, Tryz.ntmps24
  go_wp2
  have S0 : LSt w [] (.slice none 0 0) [] (.slice none 0 0) [zN] (.slice (some ⟨w.heap.size, 0, none⟩) 1 1) (w.alloc (.cells #[.string ⟨#[]⟩, .string ⟨#[]⟩] 24)) := by
    refine ⟨Kd.S_nil _ _ _ _ _, Kd.R_nil _ _ _ _ _, ?_, (Below.refl _ _).alloc (Nat.le_refl _) _⟩
    have h1 := R_lit0 k24 (fun x : SNode => [.string x.f0, .string x.f1]) (fun w base ok x => k24_mkM w base ok x) 24 w w.heap.size [zN] (fun k => True ∧ some k ≠ (Value.slice none 0 0).ownBlock) (by simp) (by simp) ⟨trivial, by simp [Value.ownBlock]⟩
    simpa [zN] using h1
  have HS := Aside0.mk S0
  clear S0
  go_loopg [3, 4, 5] (l.length + 2) (fun g v3 v4 v5 wx => ∃ (out : List (List SNode)) (met near : List SNode), Aside0 (met.length + 1000 * g ≤ 1000 * 1002 ∧ out.length + g ≤ 1002) ∧ near.length ≤ 1000 ∧ Aside0 (∀ y ∈ near, goodN y ∨ y = zN) ∧ Aside0 (∀ y ∈ met, goodN y) ∧ Aside0 (∃ rest, rLevels ndC (prs l) g near met = some rest ∧ out ++ rest = r) ∧ Aside0 (LSt w out v3 met v4 near v5 wx))
  case atStart => exact ⟨[], [], [zN], ⟨by simp; omega, by simp; omega⟩, by simp, ⟨fun y hy => .inr (by simpa using hy)⟩, ⟨by simp⟩, ⟨r, H.out, rfl⟩, HS⟩
  case round =>
    obtain ⟨out, met, near, HML, hnl, HNG, HMG, HO, HS⟩ := hrel
    cases gk with
    | zero => exact absurd HO.out (by simp [rLevels])
    | succ g =>
      obtain ⟨rest, hrest, hout⟩ := HO.out
      obtain ⟨A, c, rfl, hlc, hC⟩ := Kd.R_reads HS.out.a
      have HC := Aside0.mk hC
      clear hC
      by_cases hn : near = []
      · have hz : ¬ ((0 : Int) < (near.length : Int)) := by rw [hn]; simp
        have HE : Aside0 (out = r) := ⟨by
          rw [hn] at hrest
          simp only [rLevels, if_true] at hrest
          have := Option.some.inj hrest
          rw [← this, List.append_nil] at hout
          exact hout⟩
        clear hn hrest hout
        go_wp2
        go_ret
        exact ⟨_, rfl, HE.out ▸ Kd.S_mono HS.out.o (fun _ _ => trivial), HS.out.b⟩
      · have hz : (0 : Int) < (near.length : Int) := by have := List.length_pos_iff.2 hn; omega
        have hzn : 0 < near.length := List.length_pos_iff.2 hn
        obtain ⟨rest1, hr1, hrest1⟩ : ∃ rest1, rLevels ndC (prs l) g (rNext ndC (prs l) near met) (met ++ rNext ndC (prs l) near met) = some rest1 ∧ out ++ (if rNext ndC (prs l) near met = [] then rest1 else rNext ndC (prs l) near met :: rest1) = r := by
          simp only [rLevels, if_neg hn] at hrest
          obtain ⟨r1, h1, h2⟩ := Option.map_eq_some_iff.1 hrest
          exact ⟨r1, h1, by rw [h2]; exact hout⟩
        have HN1 := Aside0.mk hr1
        have HN2 := Aside0.mk hrest1
        clear hr1 hrest1 hrest hout hn
        rename World => W0
        obtain ⟨A4, c4, rfl, hl4, hC4⟩ := Kd.R_reads HS.out.m
        have HC4 := Aside0.mk hC4
        clear hC4
        go_wp2
        go_loopg [6, 7] l.length (fun gg v6 v7 wx => ∃ i : Nat, i + gg = l.length ∧ v7 = .int .i64 i ∧ Aside0 (Below W0.heap.size W0 wx) ∧ Aside0 (Kd.R k24 24 wx W0.heap.size (fun _ => True) v6 (((prs l).take i).foldl (rStep ndC near met) [])))
        case atStart => exact ⟨0, by omega, rfl, ⟨Below.refl _ _⟩, ⟨Kd.R_nil _ _ _ _ _⟩⟩
        case round =>
          obtain ⟨i, hig, rfl, HB, HX⟩ := hrel
          cases gk with
          | zero =>
            obtain rfl : i = l.length := by omega
            have hiz : ¬ ((l.length : Int) < (l.length : Int)) := by omega
            have hfull : (prs l).take l.length = prs l := List.take_of_length_le (by simp [prs])
            rw [hfull] at HX
            have HM : Aside0 (LMid w out u3 met (.slice A4 met.length c4) (rNext ndC (prs l) near met) u6 wr) := ⟨HS.out.mid HB.out HX.out⟩
            clear hfull HX HS HC HC4
            have HNX : Aside0 (∀ y ∈ rNext ndC (prs l) near met, goodN y) := ⟨(rNext_mem ndC_total near met (prs l) [] (fun y hy => by
              obtain ⟨z, hz, rfl⟩ := List.mem_map.1 hy
              exact HG.out z hz) (by simp) List.Pairwise.nil).2.1⟩
            have hnxl : (rNext ndC (prs l) near met).length ≤ 1000 := by
              have := rStep_len near met (prs l) []
              unfold rNext
              simp [prs] at this
              simp only [prs]
              omega
            generalize rNext ndC (prs l) near met = nx at HM HN1 HN2 HNX hnxl
            obtain ⟨A6, c6, rfl, hl6, hC6⟩ := Kd.R_reads HM.out.x
            clear hC6
            go_wp2
            go_loopg [4, 8] nx.length (fun gg v4 v8 wx => ∃ j : Nat, j + gg = nx.length ∧ v8 = .int .i64 j ∧ Aside0 (LMid w out u3 (met ++ nx.take j) v4 nx (.slice A6 nx.length c6) wx))
            case atStart => exact ⟨0, by omega, rfl, ⟨by rw [List.take_zero, List.append_nil]; exact HM.out⟩⟩
            case round =>
              obtain ⟨j, hjg, rfl, HJ⟩ := hrel
              cases gk with
              | zero =>
                obtain rfl : j = nx.length := by omega
                have hjz : ¬ ((nx.length : Int) < (nx.length : Int)) := by omega
                rw [List.take_length] at HJ
                by_cases hn0 : nx = []
                · have hlz : ¬ ((0 : Int) < (nx.length : Int)) := by rw [hn0]; simp
                  have HN3 : Aside0 (out ++ rest1 = r) := ⟨by have := HN2.out; rw [if_pos hn0] at this; exact this⟩
                  have HE0 := Aside0.mk hn0
                  clear hn0
                  go_wp2
                  go_roundg g
                  case measure => omega
                  case rel =>
                    exact ⟨out, met ++ nx, nx, ⟨by have := HML.out.1; simp; omega, by have := HML.out.2; omega⟩, hnxl, ⟨fun y hy => .inl (HNX.out y hy)⟩, ⟨fun y hy => by
                      rcases List.mem_append.1 hy with hy | hy
                      · exact HMG.out y hy
                      · exact HNX.out y hy⟩, ⟨rest1, HN1.out, HN3.out⟩, ⟨HJ.out.fin⟩⟩
                · have hlz : (0 : Int) < (nx.length : Int) := by have := List.length_pos_iff.2 hn0; omega
                  have hlzn : 0 < nx.length := List.length_pos_iff.2 hn0
                  have HN3 : Aside0 (out ++ [nx] ++ rest1 = r) := ⟨by have := HN2.out; rw [if_neg hn0] at this; simpa using this⟩
                  clear hn0
                  go_wp2_with (first | ((with_reducible refine gate_builtin (b := .append) (xs := #[.tmp 60, .tmp 62]) rfl ?_); at_builtin; refine Kd.S_append (Kd.slice 24 k24) (w0 := w) w.heap.size rfl (.tmp 60) (.tmp 62) 39 31 (.slice none 0 0) 24 rfl Tryz.underlying39 info31 rfl (by decide) (by omega) u3 out nx [.slice A6 nx.length c6] (fun k => True ∧ some k ≠ u4.ownBlock) (fun k => some k = (.slice A6 nx.length c6 : Value).ownBlock) rfl rfl ?aP ?aK ?aF ?aO ?aB ?aS ?aL ?_; (case aP => exact Kd.M_row (Kd.R_tight rfl HJ.out.x)); (case aK => exact (fun k hk => ⟨HJ.out.x.1 k hk.symm, fun e => ((Kd.S_R HJ.out.o).1 k e.symm).1.2 hk⟩)); (case aF => exact (fun k hk => ⟨trivial, fun e => by have := Kd.R_lt HJ.out.m k e.symm; omega⟩)); (case aO => exact Kd.S_mono HJ.out.o (fun k hk => ⟨⟨trivial, hk.2⟩, fun e => hk.1.2 e⟩)); (case aB => exact HJ.out.b); (case aS => exact HJ.out.b.size); (case aL => have := HML.out.2; omega); intro v1 w5 ho hb hg hat; have HO5 := Aside0.mk (HJ.out.put ho hb hg); clear ho hb hg hat))
                  go_roundg g
                  case measure => omega
                  case rel =>
                    exact ⟨out ++ [nx], met ++ nx, nx, ⟨by have := HML.out.1; simp; omega, by have := HML.out.2; simp; omega⟩, hnxl, ⟨fun y hy => .inl (HNX.out y hy)⟩, ⟨fun y hy => by
                      rcases List.mem_append.1 hy with hy | hy
                      · exact HMG.out y hy
                      · exact HNX.out y hy⟩, ⟨rest1, HN1.out, HN3.out⟩, HO5⟩
              | succ gg =>
                have hj : j < nx.length := by omega
                have hjz : (j : Int) < (nx.length : Int) := by omega
                obtain ⟨A6', c6', e6, hl6', hC6⟩ := Kd.R_reads HJ.out.x
                cases e6
                obtain ⟨ad, ea, p0, p1⟩ := at_T24 hC6 (j : Int) (by omega) hjz
                cases ea
                have hx : rd_T24 nx (j : Int) = nx[j] := rdOf_at _ _ _ hj
                rw [hx] at p0 p1
                simp only [Int.toNat_natCast] at p0 p1
                have HT : Aside0 (nx.take (j + 1) = nx.take j ++ [nx[j]]) := ⟨by rw [List.take_add_one, List.getElem?_eq_getElem hj]; rfl⟩
                have hlt : (nx.take j).length ≤ 1000 := by have := List.length_take_le j nx; omega
                clear hx hC6
                generalize nx[j] = y at p0 p1 HT
                go_wp2_with (first | ((with_reducible refine gate_builtin (b := .append) (xs := #[.tmp 50, .tmp 55]) rfl ?_); at_builtin; refine Kd.R_append k24 (w0 := w) w.heap.size rfl (.tmp 50) (.tmp 55) 31 24 (.agg #[(.string ⟨#[]⟩), (.string ⟨#[]⟩)]) 32 rfl Tryz.underlying31 info24 rfl (by decide) (by omega) u4 (met ++ nx.take j) y [.string y.f0, .string y.f1] (fun _ => True) (fun _ => False) rfl rfl ?aP (fun _ hk => hk.elim) ?aF ?aO ?aB ?aS ?aL ?_; (case aP => exact k24_mkM _ _ _ y); (case aF => exact (fun _ _ => trivial)); (case aO => exact HJ.out.m); (case aB => exact HJ.out.b); (case aS => exact HJ.out.b.size); (case aL => have := HML.out.1; rw [List.length_append]; omega); intro v1 w5 ho hb hg hat; have HO5 := Aside0.mk (HJ.out.app ho hb hg hat); clear ho hb hg hat))
                go_roundg gg
                case measure => omega
                case rel =>
                  refine ⟨j + 1, by omega, by go_num, ⟨?_⟩⟩
                  rw [HT.out, ← List.append_assoc]
                  exact HO5.out
          | succ gg =>
            have hi : i < l.length := by omega
            have hiz : (i : Int) < (l.length : Int) := by omega
            obtain ⟨ad, ea, q0, q1, q2, q3⟩ := at_T49 HR.out (i : Int) (by omega) hiz
            cases ea
            have hx : rd_T49 l (i : Int) = l[i] := rdOf_at _ _ _ hi
            rw [hx] at q0 q1 q2 q3
            simp only [Int.toNat_natCast] at q0 q1 q2 q3
            have HGX : Aside0 (goodN l[i].f1) := ⟨HG.out _ (List.getElem_mem hi)⟩
            have HT : Aside0 ((prs l).take (i + 1) = (prs l).take i ++ [(l[i].f0, l[i].f1)]) := ⟨by
              rw [List.take_add_one, List.getElem?_eq_getElem (by simpa [prs] using hi)]
              simp [prs]⟩
            clear hx
            generalize l[i] = x at q0 q1 q2 q3 HT HGX
            have HNL : Aside0 ((((prs l).take i).foldl (rStep ndC near met) []).length ≤ i) := ⟨by
              have := rStep_len near met ((prs l).take i) []
              have h2 := List.length_take_le i (prs l)
              simp only [List.length_nil] at this
              omega⟩
            have HNX : Aside0 (∀ y ∈ ((prs l).take i).foldl (rStep ndC near met) [], goodN y) := ⟨(rNext_mem ndC_total near met ((prs l).take i) [] (fun y hy => by
              have := List.mem_of_mem_take hy
              obtain ⟨z, hz, rfl⟩ := List.mem_map.1 this
              exact HG.out z hz) (by simp) List.Pairwise.nil).2.1⟩
            generalize hnx : ((prs l).take i).foldl (rStep ndC near met) [] = nx at HX HNL HNX
            have HNXE := Aside0.mk hnx
            clear hnx
            have HQ : Aside0 (∀ wx, Below W0.heap.size W0 wx → wx.cell? (ad.add (i * 4)) = some (.string x.f0.f0) ∧ wx.cell? ⟨(ad.add (i * 4)).block, (ad.add (i * 4)).off + 1, none⟩ = some (.string x.f0.f1) ∧ wx.cell? ⟨(ad.add (i * 4)).block, (ad.add (i * 4)).off + 2, none⟩ = some (.string x.f1.f0) ∧ wx.cell? ⟨(ad.add (i * 4)).block, (ad.add (i * 4)).off + 3, none⟩ = some (.string x.f1.f1)) := ⟨fun wx hb => by
              have hbw := below_then HS.out.b HS.out.b.size hb
              exact ⟨(hbw.cell (World.block_lt_of_cell? w _ q0)).trans q0, (hbw.cell (World.block_lt_of_cell? w _ q1)).trans q1, (hbw.cell (World.block_lt_of_cell? w _ q2)).trans q2, (hbw.cell (World.block_lt_of_cell? w _ q3)).trans q3⟩⟩
            clear q0 q1 q2 q3
            obtain ⟨q0, q1, q2, q3⟩ := HQ.out wr HB.out
            obtain ⟨A6, c6, rfl, hl6, hC6⟩ := Kd.R_reads HX.out
            have HC6 := Aside0.mk hC6
            clear hC6
            have hcon : ∀ wx, Below W0.heap.size W0 wx → Calls Tryz.prog 79 #[.slice A near.length c, .agg #[.string x.f0.f0, .string x.f0.f1]] wx fun e w' => e = .returned (.bool (decide (x.f0 ∈ near))) ∧ Below wx.heap.size wx w' := by
              intro wx hb
              obtain ⟨k, hk⟩ := (refHas_ev near x.f0 (by omega)).get
              exact r05_Has.calls k A c near x.f0.f0 x.f0.f1 _ wx (Kd.C_below HC.out hb) hlc hk
            have hcon2 : ∀ wx, Below W0.heap.size W0 wx → Calls Tryz.prog 79 #[.slice A4 met.length c4, .agg #[.string x.f1.f0, .string x.f1.f1]] wx fun e w' => e = .returned (.bool (decide (x.f1 ∈ met))) ∧ Below wx.heap.size wx w' := by
              intro wx hb
              obtain ⟨k, hk⟩ := (refHas_ev met x.f1 (by have := HML.out.1; omega)).get
              exact r05_Has.calls k A4 c4 met x.f1.f0 x.f1.f1 _ wx (Kd.C_below HC4.out hb) hl4 hk
            have HCON2 := Aside0.mk hcon2
            clear hcon2
            by_cases hm1 : x.f0 ∈ near
            · have hd1 : decide (x.f0 ∈ near) = true := decide_eq_true hm1
              rw [hd1] at hcon
              have HM1 := Aside0.mk hm1
              have HCON := Aside0.mk hcon
              clear hm1 hd1 hcon
              go_wp2_with fail
              refine (HCON.out _ HB.out).mono ?_
              rintro e w3 ⟨rfl, hb3⟩
              have HB3 := Aside0.mk (below_then HB.out HB.out.size hb3)
              have HW3 := Aside0.mk hb3
              clear hb3 q0 q1 q2 q3
              obtain ⟨q0, q1, q2, q3⟩ := HQ.out w3 HB3.out
              by_cases hm2 : x.f1 ∈ met
              · have hd2 : decide (x.f1 ∈ met) = true := decide_eq_true hm2
                have hcon2 := HCON2.out w3 HB3.out
                rw [hd2] at hcon2
                have HM2 := Aside0.mk hm2
                have HCON3 := Aside0.mk hcon2
                clear hm2 hd2 hcon2 HCON2
                go_wp2_with fail
                refine HCON3.out.mono ?_
                rintro e w4 ⟨rfl, hb4⟩
                have HW4 := Aside0.mk (below_then HW3.out HW3.out.size hb4)
                have HB4 := Aside0.mk (below_then HB3.out HB3.out.size hb4)
                clear hb4 q0 q1 q2 q3
                go_wp2
                go_roundg gg
                case measure => omega
                case rel =>
                  refine ⟨i + 1, by omega, by go_num, HB4, ⟨?_⟩⟩
                  rw [HT.out, List.foldl_append, HNXE.out]
                  have e : rStep ndC near met nx (x.f0, x.f1) = nx := by unfold rStep; rw [if_neg (fun h => h.2 HM2.out)]
                  simp only [List.foldl_cons, List.foldl_nil]
                  rw [e]
                  exact Kd.R_below HX.out HW4.out
              · have hd2 : decide (x.f1 ∈ met) = false := decide_eq_false hm2
                have hcon2 := HCON2.out w3 HB3.out
                rw [hd2] at hcon2
                have HM2 := Aside0.mk hm2
                have HCON3 := Aside0.mk hcon2
                clear hm2 hd2 hcon2 HCON2
                go_wp2_with fail
                refine HCON3.out.mono ?_
                rintro e w4 ⟨rfl, hb4⟩
                have HW4 := Aside0.mk (below_then HW3.out HW3.out.size hb4)
                have HB4 := Aside0.mk (below_then HB3.out HB3.out.size hb4)
                clear hb4 q0 q1 q2 q3
                obtain ⟨q0, q1, q2, q3⟩ := HQ.out w4 HB4.out
                go_wp2_with fail
                obtain ⟨k, hk⟩ := (refWith_ev nx x.f1 HNX.out HGX.out (by have := HNL.out; omega)).get
                refine (r05_With.calls k A6 c6 nx x.f1.f0 x.f1.f1 _ w4 (Kd.C_below HC6.out HW4.out) hl6 hk).mono ?_
                rintro e w5 ⟨v0, rfl, ho, hb5⟩
                have HB5 := Aside0.mk (below_then HB4.out HB4.out.size hb5)
                have HO5 := Aside0.mk ho
                clear hb5 q0 q1 q2 q3 ho hk
                go_wp2
                go_roundg gg
                case measure => omega
                case rel =>
                  refine ⟨i + 1, by omega, by go_num, HB5, ⟨?_⟩⟩
                  rw [HT.out, List.foldl_append, HNXE.out]
                  have e : rStep ndC near met nx (x.f0, x.f1) = withS ndC nx x.f1 := by unfold rStep; rw [if_pos ⟨HM1.out, HM2.out⟩]
                  simp only [List.foldl_cons, List.foldl_nil]
                  rw [e]
                  exact Kd.R_lower HO5.out HB4.out.size
            · have hd1 : decide (x.f0 ∈ near) = false := decide_eq_false hm1
              rw [hd1] at hcon
              have HM1 := Aside0.mk hm1
              have HCON := Aside0.mk hcon
              clear hm1 hd1 hcon
              go_wp2_with fail
              refine (HCON.out _ HB.out).mono ?_
              rintro e w3 ⟨rfl, hb3⟩
              have HB3 := Aside0.mk (below_then HB.out HB.out.size hb3)
              have HW3 := Aside0.mk hb3
              clear hb3 q0 q1 q2 q3
              go_wp2
              go_roundg gg
              case measure => omega
              case rel =>
                refine ⟨i + 1, by omega, by go_num, HB3, ⟨?_⟩⟩
                rw [HT.out, List.foldl_append, HNXE.out]
                have e : rStep ndC near met nx (x.f0, x.f1) = nx := by unfold rStep; rw [if_neg (fun h => HM1.out h.1)]
                simp only [List.foldl_cons, List.foldl_nil]
                rw [e]
                exact Kd.R_below HX.out HW3.out
theorem r19_Levels.calls (A0 : Option Addr) (c0 : Nat) (l0 : List SNeed) (r : List (List SNode)) (w : World) (hr0 : Kd.C k49 w A0 l0.length l0) (hc0 : l0.length ≤ c0) (h : r19_Levels.f l0 = some r) :
    Calls Tryz.prog 24 #[.slice A0 l0.length c0] w fun e w' => ∃ v0_ : Value, e = .returned (v0_) ∧ Kd.S (Kd.slice 24 k24) 31 w' w.heap.size (fun _ => True) v0_ r ∧ Below w.heap.size w w' := by
  unfold r19_Levels.f at h
  split at h
  case isFalse => cases h
  rename_i hc
  simp only [Bool.and_eq_true, decide_eq_true_eq] at hc
  exact levels_walk A0 c0 l0 r w hr0 hc0 (List.all_eq_true.1 hc.1.1) (List.all_eq_true.1 hc.1.2) hc.2 h
end Go.Proofs.YtjfcmkddeglghaaGreatDoor.G
end
