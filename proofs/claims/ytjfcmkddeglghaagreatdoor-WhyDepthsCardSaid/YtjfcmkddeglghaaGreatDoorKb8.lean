/- For every list of needs WhyDepths returns true, as the card says: how far a node is away is how long its chain is; what the root needs is 1 away; no need leads more than one further. Condition: when the call begins, utf8.acceptRanges and utf8.first hold what Go's own text lays. (part 8 of its proof) -/
import Derived.ChangeArms
import Derived.Deep.LoopGhost
import Derived.Deep.Slices
import Derived.WideShapes
import Derived.Test.YtjfcmkddeglghaaGreatDoorKb1
import Derived.Test.YtjfcmkddeglghaaGreatDoorKb2
import Derived.Test.YtjfcmkddeglghaaGreatDoorKb3
import Derived.Test.YtjfcmkddeglghaaGreatDoorKb4
import Derived.Test.YtjfcmkddeglghaaGreatDoorKb5
import Derived.Test.YtjfcmkddeglghaaGreatDoorKb7
section
namespace Go.Proofs.YtjfcmkddeglghaaGreatDoor.G
open Go.RowKit Go.Proofs.YtjfcmkddeglghaaGreatDoorW.PrintWords Go.Proofs.YtjfcmkddeglghaaGreatDoorW.PrintLast Go.Proofs.YtjfcmkddeglghaaGreatDoorW.PrintMore
attribute [local go_sem] max2_int min2_int max_two min_two max_three min_three max_four min_four
set_option linter.unusedVariables false
set_option linter.unusedSimpArgs false
attribute [local go_sem high] eqA24
mutual
def w19_WhyDepths.l0 : Nat → List (S49) → List (S46) → Int → Option (Bool)
 | 0, _, _, _ => none
 | k + 1, x0, x3, x5 => if x5 < (x3.length : Int) then (if 0 ≤ x5 then ((why_Chain.f x0 ((rd_T46 x3 x5).f0.f0) ((rd_T46 x3 x5).f0.f1)).bind fun bt423 => (if bt423.2 = 0 then (if (bt423.1.length : Int) = ((rd_T46 x3 x5).f1) then (if x5 > 0 then (if 0 ≤ (wrap64 (x5 - 1)) then (if (wrap64 (x5 - 1)) < (x3.length : Int) then ((r05_Less.f k ((rd_T46 x3 (wrap64 (x5 - 1))).f0.f0) ((rd_T46 x3 (wrap64 (x5 - 1))).f0.f1) ((rd_T46 x3 x5).f0.f0) ((rd_T46 x3 x5).f0.f1)).bind fun t430 => (if t430 = true then (w19_WhyDepths.l0 k x0 x3 (wrap64 (x5 + 1))) else (some false))) else (none)) else (none)) else (w19_WhyDepths.l0 k x0 x3 (wrap64 (x5 + 1)))) else (some false)) else (some false))) else (none)) else (w19_WhyDepths.l1 k x0 x3 0)
def w19_WhyDepths.l1 : Nat → List (S49) → List (S46) → Int → Option (Bool)
 | 0, _, _, _ => none
 | k + 1, x0, x3, x8 => if x8 < (x0.length : Int) then (w19_WhyDepths.l2 k x0 x3 x8 0 0 0) else ((w19_awake.f).bind fun t431 => (some t431))
def w19_WhyDepths.l2 : Nat → List (S49) → List (S46) → Int → Int → Int → Int → Option (Bool)
 | 0, _, _, _, _, _, _ => none
 | k + 1, x0, x3, x8, x9, x10, x11 => if x11 < (x3.length : Int) then (if 0 ≤ x11 then (if 0 ≤ x8 then (if x8 < (x0.length : Int) then (if ((((rd_T46 x3 x11).f0.f0).toList) == (((rd_T49 x0 x8).f0.f0).toList) && ((((rd_T46 x3 x11).f0.f1).toList) == (((rd_T49 x0 x8).f0.f1).toList))) = true then (if ((((rd_T46 x3 x11).f0.f0).toList) == (((rd_T49 x0 x8).f1.f0).toList) && ((((rd_T46 x3 x11).f0.f1).toList) == (((rd_T49 x0 x8).f1.f1).toList))) = true then (w19_WhyDepths.l2 k x0 x3 x8 ((rd_T46 x3 x11).f1) ((rd_T46 x3 x11).f1) (wrap64 (x11 + 1))) else (w19_WhyDepths.l2 k x0 x3 x8 ((rd_T46 x3 x11).f1) x10 (wrap64 (x11 + 1)))) else (if ((((rd_T46 x3 x11).f0.f0).toList) == (((rd_T49 x0 x8).f1.f0).toList) && ((((rd_T46 x3 x11).f0.f1).toList) == (((rd_T49 x0 x8).f1.f1).toList))) = true then (w19_WhyDepths.l2 k x0 x3 x8 x9 ((rd_T46 x3 x11).f1) (wrap64 (x11 + 1))) else (w19_WhyDepths.l2 k x0 x3 x8 x9 x10 (wrap64 (x11 + 1))))) else (none)) else (none)) else (none)) else (if 0 ≤ x8 then (if x8 < (x0.length : Int) then (if ((((rd_T49 x0 x8).f0.f0).toList) == ([] : List UInt8) && ((((rd_T49 x0 x8).f0.f1).toList) == ([] : List UInt8))) = true then (if x10 = 1 then (if x9 > 0 then (if x10 = 0 then (some false) else (if x10 > (wrap64 (x9 + 1)) then (some false) else (w19_WhyDepths.l1 k x0 x3 (wrap64 (x8 + 1))))) else (w19_WhyDepths.l1 k x0 x3 (wrap64 (x8 + 1)))) else (some false)) else (if x9 > 0 then (if x10 = 0 then (some false) else (if x10 > (wrap64 (x9 + 1)) then (some false) else (w19_WhyDepths.l1 k x0 x3 (wrap64 (x8 + 1))))) else (w19_WhyDepths.l1 k x0 x3 (wrap64 (x8 + 1))))) else (none)) else (none))
end
def w19_WhyDepths.f (k : Nat) (l0 : List (S49)) : Option (Bool) := (w18_Few.f k l0).bind fun t414 => ((why_Depths.f t414).bind fun bt417 => (if bt417.2 = 0 then (w19_WhyDepths.l0 k t414 bt417.1 0) else (if (bt417.1.length : Int) = 0 then ((w19_awake.f).bind fun t421 => (some t421)) else (some false))))
def w19_WhyDepths.T9 : Bool × List (List Nat × List Nat) := (true, [([], []), ([0], [0]), ([1], [1]), ([2], [2]), ([3, 2], [2, 3]), ([2], [2]), ([2], [2]), ([5, 6, 2], [2, 5, 6]), ([7, 2], [2, 7]), ([8, 2], [2, 8]), ([4, 9, 2], [2, 4, 9]), ([2, 10], [2, 10]), ([11, 2], [11]), ([12], [12]), ([13, 12], [12, 13]), ([14, 12, 12], [12, 14]), ([15], [15]), ([15], [15]), ([17, 15], [15, 17]), ([16, 18, 15], [15, 16, 18]), ([19, 15], [15, 19]), ([20, 15], [15, 20]), ([15], [15]), ([15], [15]), ([22, 23, 15], [15, 22, 23]), ([24, 15], [15, 24]), ([25, 15], [15, 25]), ([21, 26, 15, 15], [15, 21, 26]), ([27, 15], [15, 27]), ([15, 28, 12], [12, 15, 28]), ([12, 29], [12, 29])])
def w19_WhyDepths.B9 : List Nat := [0, 1, 3, 7, 15, 7, 7, 103, 231, 487, 1023, 2047, 4095, 8191, 16383, 32767, 65535, 65535, 196607, 524287, 1048575, 2097151, 65535, 65535, 12648447, 29425663, 62980095, 134217727, 268435455, 536870911, 1073741823]
theorem w19_WhyDepths.tab9 : rtab .any (opsOf Tryz.f4 9) = w19_WhyDepths.T9 := by kernel_rfl
theorem w19_WhyDepths.bits9 : waitsOk w19_WhyDepths.T9.2 w19_WhyDepths.B9 = true := by kernel_rfl
def w19_WhyDepths.T18 : Bool × List (List Nat × List Nat) := (true, [([], []), ([], []), ([0, 1], [0, 1]), ([2], [2]), ([3], [3]), ([], []), ([], []), ([5, 6], [5, 6]), ([7], [7]), ([8], [8]), ([4, 9], [4, 9])])
def w19_WhyDepths.B18 : List Nat := [0, 0, 3, 7, 15, 0, 0, 96, 224, 480, 1023]
theorem w19_WhyDepths.tab18 : rtab .any (opsOf Tryz.f4 18) = w19_WhyDepths.T18 := by kernel_rfl
theorem w19_WhyDepths.bits18 : waitsOk w19_WhyDepths.T18.2 w19_WhyDepths.B18 = true := by kernel_rfl
def w19_WhyDepths.T20 : Bool × List (List Nat × List Nat) := (true, [([], []), ([], []), ([0, 1], [0, 1]), ([2], [2]), ([3], [3]), ([], []), ([], []), ([5, 6], [5, 6]), ([7], [7]), ([8], [8]), ([4, 9], [4, 9])])
def w19_WhyDepths.B20 : List Nat := [0, 0, 3, 7, 15, 0, 0, 96, 224, 480, 1023]
theorem w19_WhyDepths.tab20 : rtab .any (opsOf Tryz.f4 20) = w19_WhyDepths.T20 := by kernel_rfl
theorem w19_WhyDepths.bits20 : waitsOk w19_WhyDepths.T20.2 w19_WhyDepths.B20 = true := by kernel_rfl
set_option maxHeartbeats 8000000 in
set_option maxRecDepth 100000 in
theorem w19_WhyDepths.calls (k : Nat) (A0 : Option Addr) (c0 : Nat) (l0 : List (S49)) (r : Bool) (w : World) (hr0 : Kd.C k49 w A0 l0.length l0) (hc0 : l0.length ≤ c0) (h : w19_WhyDepths.f k l0 = some r) :
  Calls Tryz.prog 4 #[.slice A0 l0.length c0] w fun e w' => e = .returned (.bool r) ∧ Below w.heap.size w w' := by
 have hu24 := Tryz.underlying24
 have HR0 := Aside0.mk hr0
 have HC0 := Aside0.mk hc0
 clear hr0 hc0
 have HB := Aside0.mk (Below.refl w.heap.size w)
 have H : ((w18_Few.f k l0).bind fun t414 => ((why_Depths.f t414).bind fun bt417 => (if bt417.2 = 0 then (w19_WhyDepths.l0 k t414 bt417.1 0) else (if (bt417.1.length : Int) = 0 then ((w19_awake.f).bind fun t421 => (some t421)) else (some false))))) = some r := h
 clear h
 obtain ⟨t414, A2, H⟩ := bo H
 obtain ⟨⟨t417, t418⟩, A3, H⟩ := bo H
 replace H : (if t418 = 0 then (w19_WhyDepths.l0 k t414 t417 0) else (if (t417.length : Int) = 0 then ((w19_awake.f).bind fun t421 => (some t421)) else (some false))) = some r := H
 by_cases c4 : t418 = 0
 ·rw [if_pos c4] at H
  have c4b0 := beq_iff_eq.mpr c4
  have c4b1 := bne_eq_false_iff_eq.mpr c4
  clear c4
  have H' := Aside0.mk H
  clear H
  go_enter Tryz.func4, Tryz.ntmps4
  go_wp2_with (first | ((with_reducible refine gate_callee (f := 15) rfl ?_); refine gl 13 Tryz.func15 #[.slice A0 l0.length c0] ?_; (with_reducible refine (w18_Few.calls k _ _ l0 t414 _ ?side1 ?side2 A2.out).mono ?_); (case side1 => repeat (first | exact HR0.out | (with_reducible refine Kd.C_alloc ?_ _) | (with_reducible refine Kd.C_drewN ?_ _) | (with_reducible refine Kd.C_drew ?_))); (case side2 => exact HC0.out); rintro e w5 ⟨v415, rfl, ho0, hb⟩; refine ⟨_, rfl, ?_⟩; have n0_ := Aside0.mk (Kd.R_lower ho0 (bz HB)); have n1_ := bs HB hb; revert n0_ n1_; clear HB; intro HO416 HB; (try clear hb); (try clear ho0); obtain ⟨Ao6, co6, eo6⟩ := Kd.R_slice HO416.out; subst eo6) | ((with_reducible refine gate_callee (f := 17) rfl ?_); refine gl 16 Tryz.func17 #[.slice Ao6 t414.length co6] ?_; (with_reducible refine (why_Depths.calls _ _ t414 t417 t418 _ ?side1 ?side2 A3.out).mono ?_); (case side1 => repeat (first | exact (Kd.R_reads' HO416.out).2.2 | (with_reducible refine Kd.C_alloc ?_ _) | (with_reducible refine Kd.C_drewN ?_ _) | (with_reducible refine Kd.C_drew ?_))); (case side2 => exact (Kd.R_reads' HO416.out).2.1); rintro e w7 ⟨v419, rfl, ho0, hb⟩; refine ⟨_, rfl, ?_⟩; have n0_ := rb HO416 hb; have n1_ := Aside0.mk (Kd.R_lower ho0 (bz HB)); have n2_ := bs HB hb; revert n0_ n1_ n2_; clear HO416 HB; intro HO416 HO420 HB; (try clear hb); (try clear ho0)))
  go_loopg [5] k (fun kq v5 w' => ∃ (x5_1 : Int), v5 = .int .i64 x5_1 ∧ Aside0 (w19_WhyDepths.l0 kq t414 t417 x5_1 = some r) ∧ Aside0 (kq ≤ k) ∧ Aside0 (Kd.R k49 49 w' w.heap.size (fun _ => True) (.slice Ao6 t414.length co6) t414) ∧ Aside0 (Kd.R k46 46 w' w.heap.size (fun _ => True) v419 t417) ∧ Aside0 (Below w.heap.size w w'))
  case atStart => exact ⟨(0), (by first | rfl | (simp; done) | (simp [*]; done)), H', ⟨Nat.le_refl _⟩, ⟨ra HO416⟩, ⟨ra HO420⟩, ⟨ba HB⟩⟩
  case round =>
   clear H'
   try clear c1
   try clear p2
   try clear c4
   try clear c4b0
   try clear c4b1
   obtain ⟨x5_1, rfl, HA, HK1, HO_0, HO_3, HB⟩ := hrel
   cases gk with
   | zero => exact absurd HA.out (by simp [w19_WhyDepths.l0])
   | succ k1 =>
    have H := HA.out
    clear HA
    simp only [w19_WhyDepths.l0] at H
    by_cases c8 : x5_1 < (t417.length : Int)
    ·rw [if_pos c8] at H
     have c8b0 : decide (x5_1 < (t417.length : Int)) = true := decide_eq_true c8
     clear c8
     by_cases c9 : 0 ≤ x5_1
     ·rw [if_pos c9] at H
      have c9b0 : decide (0 ≤ x5_1) = true := decide_eq_true c9
      clear c9
      obtain ⟨⟨t423, t426⟩, A10, H⟩ := bo H
      replace H : (if t426 = 0 then (if (t423.length : Int) = ((rd_T46 t417 x5_1).f1) then (if x5_1 > 0 then (if 0 ≤ (wrap64 (x5_1 - 1)) then (if (wrap64 (x5_1 - 1)) < (t417.length : Int) then ((r05_Less.f k1 ((rd_T46 t417 (wrap64 (x5_1 - 1))).f0.f0) ((rd_T46 t417 (wrap64 (x5_1 - 1))).f0.f1) ((rd_T46 t417 x5_1).f0.f0) ((rd_T46 t417 x5_1).f0.f1)).bind fun t430 => (if t430 = true then (w19_WhyDepths.l0 k1 t414 t417 (wrap64 (x5_1 + 1))) else (some false))) else (none)) else (none)) else (w19_WhyDepths.l0 k1 t414 t417 (wrap64 (x5_1 + 1)))) else (some false)) else (some false)) = some r := H
      by_cases c11 : t426 = 0
      ·rw [if_pos c11] at H
       have c11b0 := beq_iff_eq.mpr c11
       have c11b1 := bne_eq_false_iff_eq.mpr c11
       clear c11
       by_cases c12 : (t423.length : Int) = ((rd_T46 t417 x5_1).f1)
       ·rw [if_pos c12] at H
        have c12b0 := beq_iff_eq.mpr c12
        have c12b1 := bne_eq_false_iff_eq.mpr c12
        clear c12
        by_cases c13 : x5_1 > 0
        ·rw [if_pos c13] at H
         have c13b0 : decide (0 < x5_1) = true := decide_eq_true c13
         clear c13
         obtain ⟨ji14, hji14⟩ : ∃ j_ : Int, (wrap64 (x5_1 - 1)) = j_ := ⟨_, rfl⟩
         replace H : (if 0 ≤ (ji14) then (if (ji14) < (t417.length : Int) then ((r05_Less.f k1 ((rd_T46 t417 (ji14)).f0.f0) ((rd_T46 t417 (ji14)).f0.f1) ((rd_T46 t417 x5_1).f0.f0) ((rd_T46 t417 x5_1).f0.f1)).bind fun t430 => (if t430 = true then (w19_WhyDepths.l0 k1 t414 t417 (wrap64 (x5_1 + 1))) else (some false))) else (none)) else (none)) = some r := by first | (rw [hji14] at H; exact H) | (simp only [hji14] at H ⊢; exact H)
         (try rw [hji14] at A10)
         have hji14w : (IntKind.i64.wrap (x5_1 - 1)) = ji14 := (i64_w _).trans hji14
         by_cases c15 : 0 ≤ (ji14)
         ·rw [if_pos c15] at H
          have c15b0 : decide (0 ≤ (ji14)) = true := decide_eq_true c15
          clear c15
          by_cases c16 : (ji14) < (t417.length : Int)
          ·rw [if_pos c16] at H
           have c16b0 : decide ((ji14) < (t417.length : Int)) = true := decide_eq_true c16
           clear c16
           obtain ⟨t430, A17, H⟩ := bo H
           by_cases c18 : t430 = true
           ·subst c18
            replace H := it H
            have H' := Aside0.mk H
            clear H
            obtain ⟨Ao19, co19, eo19⟩ := Kd.R_slice HO_3.out
            subst eo19
            have p422 : 0 ≤ (x5_1 : Int) := of_decide_eq_true (by first | (with_reducible assumption) | assumption)
            have q422 : x5_1 < (t417.length : Int) := of_decide_eq_true (by first | (with_reducible assumption) | assumption)
            obtain ⟨ad422, e422, hx422_0, hx422_1, hx422_2⟩ := at_T46 (Kd.R_reads' HO_3.out).2.2 x5_1 p422 q422
            cases e422
            replace p422 := eq_true p422
            replace q422 := eq_true q422
            try go_wp2_with (first | ((with_reducible refine gate_callee (f := 18) rfl ?_); refine gl 40 Tryz.func18 #[.slice Ao6 t414.length co6, .agg #[.string ((rd_T46 t417 x5_1).f0.f0), .string ((rd_T46 t417 x5_1).f0.f1)]] ?_; (with_reducible refine (why_Chain.calls _ _ t414 ((rd_T46 t417 x5_1).f0.f0) ((rd_T46 t417 x5_1).f0.f1) t423 t426 _ ?side1 ?side2 A10.out).mono ?_); (case side1 => repeat (first | exact (Kd.R_reads' HO_0.out).2.2 | (with_reducible refine Kd.C_alloc ?_ _) | (with_reducible refine Kd.C_drewN ?_ _) | (with_reducible refine Kd.C_drew ?_))); (case side2 => exact (Kd.R_reads' HO_0.out).2.1); rintro e w20 ⟨v424, rfl, ho0, hb⟩; refine ⟨_, rfl, ?_⟩; have n0_ := rb HO_0 hb; have n1_ := rb HO_3 hb; have n2_ := Aside0.mk (Kd.R_lower ho0 (bz HB)); have n3_ := bs HB hb; revert n0_ n1_ n2_ n3_; clear HO_0 HO_3 HB; intro HO_0 HO_3 HO425 HB; (try clear hb); (try clear ho0)))
            have n0_ := Aside0.mk (Kd.R_drew HO_0.out)
            have n1_ := Aside0.mk (Kd.R_drew HO_3.out)
            have n2_ := Aside0.mk (Kd.R_drew HO425.out)
            have n3_ := Aside0.mk (below_drew1 HB.out)
            revert n0_ n1_ n2_ n3_
            clear HO_0 HO_3 HO425 HB
            intro HO_0 HO_3 HO425 HB
            obtain ⟨Ao22, co22, eo22⟩ := Kd.R_slice HO425.out
            (first | subst eo22 | (injection eo22 with f1_ f2_ f3_; have f4_ := f1_.symm; have f5_ := f3_.symm; clear f1_ f2_ f3_; subst f4_; subst f5_))
            have p427 : 0 ≤ (x5_1 : Int) := of_decide_eq_true (by first | (with_reducible assumption) | assumption)
            have q427 : x5_1 < (t417.length : Int) := of_decide_eq_true (by first | (with_reducible assumption) | assumption)
            obtain ⟨ad427, e427, hx427_0, hx427_1, hx427_2⟩ := at_T46 (Kd.R_reads' HO_3.out).2.2 x5_1 p427 q427
            obtain rfl : ad422 = ad427 := (by injection e427)
            replace p427 := eq_true p427
            replace q427 := eq_true q427
            have p428 : 0 ≤ ((ji14) : Int) := of_decide_eq_true (by first | (with_reducible assumption) | assumption)
            have q428 : (ji14) < (t417.length : Int) := of_decide_eq_true (by first | (with_reducible assumption) | assumption)
            obtain ⟨ad428, e428, hx428_0, hx428_1, hx428_2⟩ := at_T46 (Kd.R_reads' HO_3.out).2.2 (ji14) p428 q428
            obtain rfl : ad422 = ad428 := (by injection e428)
            replace p428 := eq_true p428
            replace q428 := eq_true q428
            have p429 : 0 ≤ (x5_1 : Int) := of_decide_eq_true (by first | (with_reducible assumption) | assumption)
            have q429 : x5_1 < (t417.length : Int) := of_decide_eq_true (by first | (with_reducible assumption) | assumption)
            obtain ⟨ad429, e429, hx429_0, hx429_1, hx429_2⟩ := at_T46 (Kd.R_reads' HO_3.out).2.2 x5_1 p429 q429
            obtain rfl : ad422 = ad429 := (by injection e429)
            replace p429 := eq_true p429
            replace q429 := eq_true q429
            refine start_ (n := 31) (S := fun w' => w'.cell? (ad422.add ((x5_1).toNat * 3)) = some (.string ((rd_T46 t417 x5_1).f0.f0)) ∧ w'.cell? ⟨(ad422.add ((x5_1).toNat * 3)).block, (ad422.add ((x5_1).toNat * 3)).off + 1, none⟩ = some (.string ((rd_T46 t417 x5_1).f0.f1)) ∧ w'.cell? ⟨(ad422.add ((x5_1).toNat * 3)).block, (ad422.add ((x5_1).toNat * 3)).off + 2, none⟩ = some (.int .i64 ((rd_T46 t417 x5_1).f1)) ∧ w'.cell? (ad422.add (((ji14)).toNat * 3)) = some (.string ((rd_T46 t417 (ji14)).f0.f0)) ∧ w'.cell? ⟨(ad422.add (((ji14)).toNat * 3)).block, (ad422.add (((ji14)).toNat * 3)).off + 1, none⟩ = some (.string ((rd_T46 t417 (ji14)).f0.f1)) ∧ w'.cell? ⟨(ad422.add (((ji14)).toNat * 3)).block, (ad422.add (((ji14)).toNat * 3)).off + 2, none⟩ = some (.int .i64 ((rd_T46 t417 (ji14)).f1)) ∧ w'.cell? (ad422.add ((x5_1).toNat * 3)) = some (.string ((rd_T46 t417 x5_1).f0.f0)) ∧ w'.cell? ⟨(ad422.add ((x5_1).toNat * 3)).block, (ad422.add ((x5_1).toNat * 3)).off + 1, none⟩ = some (.string ((rd_T46 t417 x5_1).f0.f1)) ∧ w'.cell? ⟨(ad422.add ((x5_1).toNat * 3)).block, (ad422.add ((x5_1).toNat * 3)).off + 2, none⟩ = some (.int .i64 ((rd_T46 t417 x5_1).f1))) (ds := []) #[false, false, false, false, false, false, false, false, false, false, false, false, false, false, false, false, false, false, false, false, false, false, false, false, false, false, false, false, false, false, false] (by kernel_rfl) rfl rfl ⟨hx427_0, hx427_1, hx427_2, hx428_0, hx428_1, hx428_2, hx429_0, hx429_1, hx429_2⟩ (fun hHeld => ?_); refine with_tabW w19_WhyDepths.tab9 w19_WhyDepths.bits9 (fun HT_ HW_ => ?_)
            generalize w20.drew = w21 at HO_0 HO_3 HO425 HB hx427_0 hx427_1 hx427_2 hx428_0 hx428_1 hx428_2 hx429_0 hx429_1 hx429_2 hHeld ⊢
            refine pu 0 43 ?_
            refine pu 1 44 ?_
            refine pu 2 45 ?_
            refine pu 3 46 ?_
            refine pu 4 47 ?_
            refine pu 5 48 ?_
            refine pu 6 49 ?_
            refine pu 7 50 ?_
            refine pu 8 51 ?_
            refine tk 9 52 ?_
            refine pu 10 53 ?_
            refine pu 11 54 ?_
            refine pu 12 55 ?_
            refine pu 13 56 ?_
            refine pu 14 57 ?_
            refine pu 15 58 ?_
            refine pu 16 59 ?_
            refine pu 17 60 ?_
            refine pu 18 61 ?_
            refine pu 19 62 ?_
            refine pu 20 63 ?_
            refine pu 22 65 ?_
            refine pu 23 66 ?_
            refine pu 24 67 ?_
            refine pu 25 68 ?_
            refine tk 21 64 ?_
            refine tk 26 69 ?_
            refine oq 27 (some 70) fun K hK => ?_
            refine goes_ Tryz.func28 (by kernel_rfl) rfl #[.agg #[.string ((rd_T46 t417 (ji14)).f0.f0), .string ((rd_T46 t417 (ji14)).f0.f1)], .agg #[.string ((rd_T46 t417 x5_1).f0.f0), .string ((rd_T46 t417 x5_1).f0.f1)]] (by rfl) rfl rfl (by (try simp only [List.map_toArray, List.map_cons, List.map_nil]); first | done | (simp only [hji14]; rfl) | rfl | (simp only [List.length_drop, List.length_take]; rfl)) ?_
            with_reducible refine (r05_Less.calls k1 ((rd_T46 t417 (ji14)).f0.f0) ((rd_T46 t417 (ji14)).f0.f1) ((rd_T46 t417 x5_1).f0.f0) ((rd_T46 t417 x5_1).f0.f1) true _ A17.out).mono ?_
            rintro e w23 ⟨rfl, hb⟩
            have HS0_ := (hb.cell (World.block_lt_of_cell? _ _ (hHeld.1))).trans (hHeld.1)
            have HS1_ := (hb.cell (World.block_lt_of_cell? _ _ (hHeld.2.1))).trans (hHeld.2.1)
            have HS2_ := (hb.cell (World.block_lt_of_cell? _ _ (hHeld.2.2.1))).trans (hHeld.2.2.1)
            have HS3_ := (hb.cell (World.block_lt_of_cell? _ _ (hHeld.2.2.2.1))).trans (hHeld.2.2.2.1)
            have HS4_ := (hb.cell (World.block_lt_of_cell? _ _ (hHeld.2.2.2.2.1))).trans (hHeld.2.2.2.2.1)
            have HS5_ := (hb.cell (World.block_lt_of_cell? _ _ (hHeld.2.2.2.2.2.1))).trans (hHeld.2.2.2.2.2.1)
            have HS6_ := (hb.cell (World.block_lt_of_cell? _ _ (hHeld.2.2.2.2.2.2.1))).trans (hHeld.2.2.2.2.2.2.1)
            have HS7_ := (hb.cell (World.block_lt_of_cell? _ _ (hHeld.2.2.2.2.2.2.2.1))).trans (hHeld.2.2.2.2.2.2.2.1)
            have HS8_ := (hb.cell (World.block_lt_of_cell? _ _ (hHeld.2.2.2.2.2.2.2.2))).trans (hHeld.2.2.2.2.2.2.2.2)
            refine ⟨_, rfl, ?_⟩
            have n0_ := rb HO_0 hb
            have n1_ := rb HO_3 hb
            have n2_ := rb HO425 hb
            have n3_ := bs HB hb
            revert n0_ n1_ n2_ n3_
            clear HO_0 HO_3 HO425 HB
            intro HO_0 HO_3 HO425 HB
            try clear hb
            refine hK.out _ _ ⟨HS0_, HS1_, HS2_, HS3_, HS4_, HS5_, HS6_, HS7_, HS8_⟩ (fun hHeld => ?_)
            clear hK K
            refine nm ?_
            refine pu 28 71 ?_
            refine pu 29 72 ?_
            refine pu 30 73 ?_
            refine dq ?_
            try go_wp2
            go_roundg k1
            case measure => have := HK1.out; omega
            case rel => exact ⟨(wrap64 (x5_1 + 1)), (by first | rfl | (simp; done) | (simp [*]; done)), H', ⟨by have := HK1.out; omega⟩, ⟨ra HO_0⟩, ⟨ra HO_3⟩, ⟨ba HB⟩⟩
           ·replace c18 := Bool.eq_false_iff.mpr c18
            subst c18
            replace H := jf H
            obtain rfl := Option.some.inj H
            obtain ⟨Ao24, co24, eo24⟩ := Kd.R_slice HO_3.out
            subst eo24
            have p422 : 0 ≤ (x5_1 : Int) := of_decide_eq_true (by first | (with_reducible assumption) | assumption)
            have q422 : x5_1 < (t417.length : Int) := of_decide_eq_true (by first | (with_reducible assumption) | assumption)
            obtain ⟨ad422, e422, hx422_0, hx422_1, hx422_2⟩ := at_T46 (Kd.R_reads' HO_3.out).2.2 x5_1 p422 q422
            cases e422
            replace p422 := eq_true p422
            replace q422 := eq_true q422
            try go_wp2_with (first | ((with_reducible refine gate_callee (f := 18) rfl ?_); refine gl 40 Tryz.func18 #[.slice Ao6 t414.length co6, .agg #[.string ((rd_T46 t417 x5_1).f0.f0), .string ((rd_T46 t417 x5_1).f0.f1)]] ?_; (with_reducible refine (why_Chain.calls _ _ t414 ((rd_T46 t417 x5_1).f0.f0) ((rd_T46 t417 x5_1).f0.f1) t423 t426 _ ?side1 ?side2 A10.out).mono ?_); (case side1 => repeat (first | exact (Kd.R_reads' HO_0.out).2.2 | (with_reducible refine Kd.C_alloc ?_ _) | (with_reducible refine Kd.C_drewN ?_ _) | (with_reducible refine Kd.C_drew ?_))); (case side2 => exact (Kd.R_reads' HO_0.out).2.1); rintro e w25 ⟨v424, rfl, ho0, hb⟩; refine ⟨_, rfl, ?_⟩; have n0_ := rb HO_0 hb; have n1_ := rb HO_3 hb; have n2_ := Aside0.mk (Kd.R_lower ho0 (bz HB)); have n3_ := bs HB hb; revert n0_ n1_ n2_ n3_; clear HO_0 HO_3 HB; intro HO_0 HO_3 HO425 HB; (try clear hb); (try clear ho0)))
            have n0_ := Aside0.mk (Kd.R_drew HO_0.out)
            have n1_ := Aside0.mk (Kd.R_drew HO_3.out)
            have n2_ := Aside0.mk (Kd.R_drew HO425.out)
            have n3_ := Aside0.mk (below_drew1 HB.out)
            revert n0_ n1_ n2_ n3_
            clear HO_0 HO_3 HO425 HB
            intro HO_0 HO_3 HO425 HB
            obtain ⟨Ao27, co27, eo27⟩ := Kd.R_slice HO425.out
            (first | subst eo27 | (injection eo27 with f1_ f2_ f3_; have f4_ := f1_.symm; have f5_ := f3_.symm; clear f1_ f2_ f3_; subst f4_; subst f5_))
            have p427 : 0 ≤ (x5_1 : Int) := of_decide_eq_true (by first | (with_reducible assumption) | assumption)
            have q427 : x5_1 < (t417.length : Int) := of_decide_eq_true (by first | (with_reducible assumption) | assumption)
            obtain ⟨ad427, e427, hx427_0, hx427_1, hx427_2⟩ := at_T46 (Kd.R_reads' HO_3.out).2.2 x5_1 p427 q427
            obtain rfl : ad422 = ad427 := (by injection e427)
            replace p427 := eq_true p427
            replace q427 := eq_true q427
            have p428 : 0 ≤ ((ji14) : Int) := of_decide_eq_true (by first | (with_reducible assumption) | assumption)
            have q428 : (ji14) < (t417.length : Int) := of_decide_eq_true (by first | (with_reducible assumption) | assumption)
            obtain ⟨ad428, e428, hx428_0, hx428_1, hx428_2⟩ := at_T46 (Kd.R_reads' HO_3.out).2.2 (ji14) p428 q428
            obtain rfl : ad422 = ad428 := (by injection e428)
            replace p428 := eq_true p428
            replace q428 := eq_true q428
            have p429 : 0 ≤ (x5_1 : Int) := of_decide_eq_true (by first | (with_reducible assumption) | assumption)
            have q429 : x5_1 < (t417.length : Int) := of_decide_eq_true (by first | (with_reducible assumption) | assumption)
            obtain ⟨ad429, e429, hx429_0, hx429_1, hx429_2⟩ := at_T46 (Kd.R_reads' HO_3.out).2.2 x5_1 p429 q429
            obtain rfl : ad422 = ad429 := (by injection e429)
            replace p429 := eq_true p429
            replace q429 := eq_true q429
            refine start_ (n := 31) (S := fun w' => w'.cell? (ad422.add ((x5_1).toNat * 3)) = some (.string ((rd_T46 t417 x5_1).f0.f0)) ∧ w'.cell? ⟨(ad422.add ((x5_1).toNat * 3)).block, (ad422.add ((x5_1).toNat * 3)).off + 1, none⟩ = some (.string ((rd_T46 t417 x5_1).f0.f1)) ∧ w'.cell? ⟨(ad422.add ((x5_1).toNat * 3)).block, (ad422.add ((x5_1).toNat * 3)).off + 2, none⟩ = some (.int .i64 ((rd_T46 t417 x5_1).f1)) ∧ w'.cell? (ad422.add (((ji14)).toNat * 3)) = some (.string ((rd_T46 t417 (ji14)).f0.f0)) ∧ w'.cell? ⟨(ad422.add (((ji14)).toNat * 3)).block, (ad422.add (((ji14)).toNat * 3)).off + 1, none⟩ = some (.string ((rd_T46 t417 (ji14)).f0.f1)) ∧ w'.cell? ⟨(ad422.add (((ji14)).toNat * 3)).block, (ad422.add (((ji14)).toNat * 3)).off + 2, none⟩ = some (.int .i64 ((rd_T46 t417 (ji14)).f1)) ∧ w'.cell? (ad422.add ((x5_1).toNat * 3)) = some (.string ((rd_T46 t417 x5_1).f0.f0)) ∧ w'.cell? ⟨(ad422.add ((x5_1).toNat * 3)).block, (ad422.add ((x5_1).toNat * 3)).off + 1, none⟩ = some (.string ((rd_T46 t417 x5_1).f0.f1)) ∧ w'.cell? ⟨(ad422.add ((x5_1).toNat * 3)).block, (ad422.add ((x5_1).toNat * 3)).off + 2, none⟩ = some (.int .i64 ((rd_T46 t417 x5_1).f1))) (ds := []) #[false, false, false, false, false, false, false, false, false, false, false, false, false, false, false, false, false, false, false, false, false, false, false, false, false, false, false, false, false, false, false] (by kernel_rfl) rfl rfl ⟨hx427_0, hx427_1, hx427_2, hx428_0, hx428_1, hx428_2, hx429_0, hx429_1, hx429_2⟩ (fun hHeld => ?_); refine with_tabW w19_WhyDepths.tab9 w19_WhyDepths.bits9 (fun HT_ HW_ => ?_)
            generalize w25.drew = w26 at HO_0 HO_3 HO425 HB hx427_0 hx427_1 hx427_2 hx428_0 hx428_1 hx428_2 hx429_0 hx429_1 hx429_2 hHeld ⊢
            refine pu 0 43 ?_
            refine pu 1 44 ?_
            refine pu 2 45 ?_
            refine pu 3 46 ?_
            refine pu 4 47 ?_
            refine pu 5 48 ?_
            refine pu 6 49 ?_
            refine pu 7 50 ?_
            refine pu 8 51 ?_
            refine tk 9 52 ?_
            refine pu 10 53 ?_
            refine pu 11 54 ?_
            refine pu 12 55 ?_
            refine pu 13 56 ?_
            refine pu 14 57 ?_
            refine pu 15 58 ?_
            refine pu 16 59 ?_
            refine pu 17 60 ?_
            refine pu 18 61 ?_
            refine pu 19 62 ?_
            refine pu 20 63 ?_
            refine pu 22 65 ?_
            refine pu 23 66 ?_
            refine pu 24 67 ?_
            refine pu 25 68 ?_
            refine tk 21 64 ?_
            refine tk 26 69 ?_
            refine oq 27 (some 70) fun K hK => ?_
            refine goes_ Tryz.func28 (by kernel_rfl) rfl #[.agg #[.string ((rd_T46 t417 (ji14)).f0.f0), .string ((rd_T46 t417 (ji14)).f0.f1)], .agg #[.string ((rd_T46 t417 x5_1).f0.f0), .string ((rd_T46 t417 x5_1).f0.f1)]] (by rfl) rfl rfl (by (try simp only [List.map_toArray, List.map_cons, List.map_nil]); first | done | (simp only [hji14]; rfl) | rfl | (simp only [List.length_drop, List.length_take]; rfl)) ?_
            with_reducible refine (r05_Less.calls k1 ((rd_T46 t417 (ji14)).f0.f0) ((rd_T46 t417 (ji14)).f0.f1) ((rd_T46 t417 x5_1).f0.f0) ((rd_T46 t417 x5_1).f0.f1) false _ A17.out).mono ?_
            rintro e w28 ⟨rfl, hb⟩
            have HS0_ := (hb.cell (World.block_lt_of_cell? _ _ (hHeld.1))).trans (hHeld.1)
            have HS1_ := (hb.cell (World.block_lt_of_cell? _ _ (hHeld.2.1))).trans (hHeld.2.1)
            have HS2_ := (hb.cell (World.block_lt_of_cell? _ _ (hHeld.2.2.1))).trans (hHeld.2.2.1)
            have HS3_ := (hb.cell (World.block_lt_of_cell? _ _ (hHeld.2.2.2.1))).trans (hHeld.2.2.2.1)
            have HS4_ := (hb.cell (World.block_lt_of_cell? _ _ (hHeld.2.2.2.2.1))).trans (hHeld.2.2.2.2.1)
            have HS5_ := (hb.cell (World.block_lt_of_cell? _ _ (hHeld.2.2.2.2.2.1))).trans (hHeld.2.2.2.2.2.1)
            have HS6_ := (hb.cell (World.block_lt_of_cell? _ _ (hHeld.2.2.2.2.2.2.1))).trans (hHeld.2.2.2.2.2.2.1)
            have HS7_ := (hb.cell (World.block_lt_of_cell? _ _ (hHeld.2.2.2.2.2.2.2.1))).trans (hHeld.2.2.2.2.2.2.2.1)
            have HS8_ := (hb.cell (World.block_lt_of_cell? _ _ (hHeld.2.2.2.2.2.2.2.2))).trans (hHeld.2.2.2.2.2.2.2.2)
            refine ⟨_, rfl, ?_⟩
            have n0_ := rb HO_0 hb
            have n1_ := rb HO_3 hb
            have n2_ := rb HO425 hb
            have n3_ := bs HB hb
            revert n0_ n1_ n2_ n3_
            clear HO_0 HO_3 HO425 HB
            intro HO_0 HO_3 HO425 HB
            try clear hb
            refine hK.out _ _ ⟨HS0_, HS1_, HS2_, HS3_, HS4_, HS5_, HS6_, HS7_, HS8_⟩ (fun hHeld => ?_)
            clear hK K
            refine nm ?_
            refine pu 28 71 ?_
            refine pu 29 72 ?_
            refine pu 30 73 ?_
            refine dq ?_
            try go_wp2
            go_ret
            exact ⟨by first | rfl | (simp [errW_none, errW_some] <;> rfl) | (simp only [← hji14]; first | rfl | (simp [errW_none, errW_some] <;> rfl)) | (simp [*, errW_none, errW_some] <;> rfl), ba HB⟩
          ·rw [if_neg c16] at H
           exact absurd H (by simp)
         ·rw [if_neg c15] at H
          exact absurd H (by simp)
        ·rw [if_neg c13] at H
         have c13b0 : decide (0 < x5_1) = false := decide_eq_false c13
         clear c13
         have H' := Aside0.mk H
         clear H
         obtain ⟨Ao29, co29, eo29⟩ := Kd.R_slice HO_3.out
         subst eo29
         have p422 : 0 ≤ (x5_1 : Int) := of_decide_eq_true (by first | (with_reducible assumption) | assumption)
         have q422 : x5_1 < (t417.length : Int) := of_decide_eq_true (by first | (with_reducible assumption) | assumption)
         obtain ⟨ad422, e422, hx422_0, hx422_1, hx422_2⟩ := at_T46 (Kd.R_reads' HO_3.out).2.2 x5_1 p422 q422
         cases e422
         replace p422 := eq_true p422
         replace q422 := eq_true q422
         try go_wp2_with (first | ((with_reducible refine gate_callee (f := 18) rfl ?_); refine gl 40 Tryz.func18 #[.slice Ao6 t414.length co6, .agg #[.string ((rd_T46 t417 x5_1).f0.f0), .string ((rd_T46 t417 x5_1).f0.f1)]] ?_; (with_reducible refine (why_Chain.calls _ _ t414 ((rd_T46 t417 x5_1).f0.f0) ((rd_T46 t417 x5_1).f0.f1) t423 t426 _ ?side1 ?side2 A10.out).mono ?_); (case side1 => repeat (first | exact (Kd.R_reads' HO_0.out).2.2 | (with_reducible refine Kd.C_alloc ?_ _) | (with_reducible refine Kd.C_drewN ?_ _) | (with_reducible refine Kd.C_drew ?_))); (case side2 => exact (Kd.R_reads' HO_0.out).2.1); rintro e w30 ⟨v424, rfl, ho0, hb⟩; refine ⟨_, rfl, ?_⟩; have n0_ := rb HO_0 hb; have n1_ := rb HO_3 hb; have n2_ := Aside0.mk (Kd.R_lower ho0 (bz HB)); have n3_ := bs HB hb; revert n0_ n1_ n2_ n3_; clear HO_0 HO_3 HB; intro HO_0 HO_3 HO425 HB; (try clear hb); (try clear ho0)))
         have n0_ := Aside0.mk (Kd.R_drew HO_0.out)
         have n1_ := Aside0.mk (Kd.R_drew HO_3.out)
         have n2_ := Aside0.mk (Kd.R_drew HO425.out)
         have n3_ := Aside0.mk (below_drew1 HB.out)
         revert n0_ n1_ n2_ n3_
         clear HO_0 HO_3 HO425 HB
         intro HO_0 HO_3 HO425 HB
         obtain ⟨Ao32, co32, eo32⟩ := Kd.R_slice HO425.out
         (first | subst eo32 | (injection eo32 with f1_ f2_ f3_; have f4_ := f1_.symm; have f5_ := f3_.symm; clear f1_ f2_ f3_; subst f4_; subst f5_))
         have p427 : 0 ≤ (x5_1 : Int) := of_decide_eq_true (by first | (with_reducible assumption) | assumption)
         have q427 : x5_1 < (t417.length : Int) := of_decide_eq_true (by first | (with_reducible assumption) | assumption)
         obtain ⟨ad427, e427, hx427_0, hx427_1, hx427_2⟩ := at_T46 (Kd.R_reads' HO_3.out).2.2 x5_1 p427 q427
         obtain rfl : ad422 = ad427 := (by injection e427)
         replace p427 := eq_true p427
         replace q427 := eq_true q427
         refine start_ (n := 31) (S := fun w' => w'.cell? (ad422.add ((x5_1).toNat * 3)) = some (.string ((rd_T46 t417 x5_1).f0.f0)) ∧ w'.cell? ⟨(ad422.add ((x5_1).toNat * 3)).block, (ad422.add ((x5_1).toNat * 3)).off + 1, none⟩ = some (.string ((rd_T46 t417 x5_1).f0.f1)) ∧ w'.cell? ⟨(ad422.add ((x5_1).toNat * 3)).block, (ad422.add ((x5_1).toNat * 3)).off + 2, none⟩ = some (.int .i64 ((rd_T46 t417 x5_1).f1))) (ds := []) #[false, false, false, false, false, false, false, false, false, false, false, false, false, false, false, false, false, false, false, false, false, false, false, false, false, false, false, false, false, false, false] (by kernel_rfl) rfl rfl ⟨hx427_0, hx427_1, hx427_2⟩ (fun hHeld => ?_); refine with_tabW w19_WhyDepths.tab9 w19_WhyDepths.bits9 (fun HT_ HW_ => ?_)
         generalize w30.drew = w31 at HO_0 HO_3 HO425 HB hx427_0 hx427_1 hx427_2 hHeld ⊢
         refine pu 0 43 ?_
         refine pu 1 44 ?_
         refine pu 2 45 ?_
         refine pu 3 46 ?_
         refine pu 4 47 ?_
         refine pu 5 48 ?_
         refine pu 6 49 ?_
         refine pu 7 50 ?_
         refine pu 8 51 ?_
         refine tk 9 52 ?_
         refine pu 10 53 ?_
         refine pu 11 54 ?_
         refine pu 12 55 ?_
         refine pu 13 56 ?_
         refine pu 14 57 ?_
         refine pu 15 58 ?_
         refine pure_ (i := 16) (N := some 59) (v := undef) (a' := ?_) #[true, true, true, true, true, true, true, true, true, true, true, true, true, true, true, true, true, false, false, false, false, false, false, false, false, false, false, false, false, false, false] rfl rfl (any_of HT_.out (by kernel_rfl)) (fun _ _ _ h => h) (Or.inr ⟨by rfl, rfl⟩) ?_ ?_
         rotate_left
         ·simp only [Act.put, List.setIfInBounds_toArray, List.set_cons_zero, List.set_cons_succ, i64_w, i32_w]
          rfl
         refine pure_ (i := 17) (N := some 60) (v := undef) (a' := ?_) #[true, true, true, true, true, true, true, true, true, true, true, true, true, true, true, true, true, true, false, false, false, false, false, false, false, false, false, false, false, false, false] rfl rfl (any_of HT_.out (by kernel_rfl)) (fun _ _ _ h => h) (Or.inr ⟨by rfl, rfl⟩) ?_ ?_
         rotate_left
         ·simp only [Act.put, List.setIfInBounds_toArray, List.set_cons_zero, List.set_cons_succ, i64_w, i32_w]
          rfl
         refine pure_ (i := 18) (N := some 61) (v := undef) (a' := ?_) #[true, true, true, true, true, true, true, true, true, true, true, true, true, true, true, true, true, true, true, false, false, false, false, false, false, false, false, false, false, false, false] rfl rfl (any_of HT_.out (by kernel_rfl)) (fun _ _ _ h => h) (Or.inr ⟨by rfl, rfl⟩) ?_ ?_
         rotate_left
         ·simp only [Act.put, List.setIfInBounds_toArray, List.set_cons_zero, List.set_cons_succ, i64_w, i32_w]
          rfl
         refine pure_ (i := 19) (N := some 62) (v := undef) (a' := ?_) #[true, true, true, true, true, true, true, true, true, true, true, true, true, true, true, true, true, true, true, true, false, false, false, false, false, false, false, false, false, false, false] rfl rfl (any_of HT_.out (by kernel_rfl)) (fun _ _ _ h => h) (Or.inr ⟨by rfl, rfl⟩) ?_ ?_
         rotate_left
         ·simp only [Act.put, List.setIfInBounds_toArray, List.set_cons_zero, List.set_cons_succ, i64_w, i32_w]
          rfl
         refine pure_ (i := 20) (N := some 63) (v := undef) (a' := ?_) #[true, true, true, true, true, true, true, true, true, true, true, true, true, true, true, true, true, true, true, true, true, false, false, false, false, false, false, false, false, false, false] rfl rfl (any_of HT_.out (by kernel_rfl)) (fun _ _ _ h => h) (Or.inr ⟨by rfl, rfl⟩) ?_ ?_
         rotate_left
         ·simp only [Act.put, List.setIfInBounds_toArray, List.set_cons_zero, List.set_cons_succ, i64_w, i32_w]
          rfl
         refine pure_ (i := 21) (N := some 64) (v := undef) (a' := ?_) #[true, true, true, true, true, true, true, true, true, true, true, true, true, true, true, true, true, true, true, true, true, true, false, false, false, false, false, false, false, false, false] rfl rfl (any_of HT_.out (by kernel_rfl)) (fun _ _ _ h => h) (Or.inr ⟨by rfl, rfl⟩) ?_ ?_
         rotate_left
         ·simp only [Act.put, List.setIfInBounds_toArray, List.set_cons_zero, List.set_cons_succ, i64_w, i32_w]
          rfl
         refine pure_ (i := 22) (N := some 65) (v := undef) (a' := ?_) #[true, true, true, true, true, true, true, true, true, true, true, true, true, true, true, true, true, true, true, true, true, true, true, false, false, false, false, false, false, false, false] rfl rfl (any_of HT_.out (by kernel_rfl)) (fun _ _ _ h => h) (Or.inr ⟨by rfl, rfl⟩) ?_ ?_
         rotate_left
         ·simp only [Act.put, List.setIfInBounds_toArray, List.set_cons_zero, List.set_cons_succ, i64_w, i32_w]
          rfl
         refine pure_ (i := 23) (N := some 66) (v := undef) (a' := ?_) #[true, true, true, true, true, true, true, true, true, true, true, true, true, true, true, true, true, true, true, true, true, true, true, true, false, false, false, false, false, false, false] rfl rfl (any_of HT_.out (by kernel_rfl)) (fun _ _ _ h => h) (Or.inr ⟨by rfl, rfl⟩) ?_ ?_
         rotate_left
         ·simp only [Act.put, List.setIfInBounds_toArray, List.set_cons_zero, List.set_cons_succ, i64_w, i32_w]
          rfl
         refine pure_ (i := 24) (N := some 67) (v := undef) (a' := ?_) #[true, true, true, true, true, true, true, true, true, true, true, true, true, true, true, true, true, true, true, true, true, true, true, true, true, false, false, false, false, false, false] rfl rfl (any_of HT_.out (by kernel_rfl)) (fun _ _ _ h => h) (Or.inr ⟨by rfl, rfl⟩) ?_ ?_
         rotate_left
         ·simp only [Act.put, List.setIfInBounds_toArray, List.set_cons_zero, List.set_cons_succ, i64_w, i32_w]
          rfl
         refine pure_ (i := 25) (N := some 68) (v := undef) (a' := ?_) #[true, true, true, true, true, true, true, true, true, true, true, true, true, true, true, true, true, true, true, true, true, true, true, true, true, true, false, false, false, false, false] rfl rfl (any_of HT_.out (by kernel_rfl)) (fun _ _ _ h => h) (Or.inr ⟨by rfl, rfl⟩) ?_ ?_
         rotate_left
         ·simp only [Act.put, List.setIfInBounds_toArray, List.set_cons_zero, List.set_cons_succ, i64_w, i32_w]
          rfl
         refine pure_ (i := 26) (N := some 69) (v := undef) (a' := ?_) #[true, true, true, true, true, true, true, true, true, true, true, true, true, true, true, true, true, true, true, true, true, true, true, true, true, true, true, false, false, false, false] rfl rfl (any_of HT_.out (by kernel_rfl)) (fun _ _ _ h => h) (Or.inr ⟨by rfl, rfl⟩) ?_ ?_
         rotate_left
         ·simp only [Act.put, List.setIfInBounds_toArray, List.set_cons_zero, List.set_cons_succ, i64_w, i32_w]
          rfl
         refine pure_ (i := 27) (N := some 70) (v := undef) (a' := ?_) #[true, true, true, true, true, true, true, true, true, true, true, true, true, true, true, true, true, true, true, true, true, true, true, true, true, true, true, true, false, false, false] rfl rfl (any_of HT_.out (by kernel_rfl)) (fun _ _ _ h => h) (Or.inr ⟨by rfl, rfl⟩) ?_ ?_
         rotate_left
         ·simp only [Act.put, List.setIfInBounds_toArray, List.set_cons_zero, List.set_cons_succ, i64_w, i32_w]
          rfl
         refine pure_ (i := 28) (N := some 71) (v := undef) (a' := ?_) #[true, true, true, true, true, true, true, true, true, true, true, true, true, true, true, true, true, true, true, true, true, true, true, true, true, true, true, true, true, false, false] rfl rfl (any_of HT_.out (by kernel_rfl)) (fun _ _ _ h => h) (Or.inr ⟨by rfl, rfl⟩) ?_ ?_
         rotate_left
         ·simp only [Act.put, List.setIfInBounds_toArray, List.set_cons_zero, List.set_cons_succ, i64_w, i32_w]
          rfl
         refine pu 29 72 ?_
         refine pu 30 73 ?_
         refine dq ?_
         try go_wp2
         go_roundg k1
         case measure => have := HK1.out; omega
         case rel => exact ⟨(wrap64 (x5_1 + 1)), (by first | rfl | (simp; done) | (simp [*]; done)), H', ⟨by have := HK1.out; omega⟩, ⟨ra HO_0⟩, ⟨ra HO_3⟩, ⟨ba HB⟩⟩
       ·rw [if_neg c12] at H
        have c12b0 := beq_eq_false_iff_ne.mpr c12
        have c12b1 := bne_iff_ne.mpr c12
        obtain rfl := Option.some.inj H
        obtain ⟨Ao33, co33, eo33⟩ := Kd.R_slice HO_3.out
        subst eo33
        have p422 : 0 ≤ (x5_1 : Int) := of_decide_eq_true (by first | (with_reducible assumption) | assumption)
        have q422 : x5_1 < (t417.length : Int) := of_decide_eq_true (by first | (with_reducible assumption) | assumption)
        obtain ⟨ad422, e422, hx422_0, hx422_1, hx422_2⟩ := at_T46 (Kd.R_reads' HO_3.out).2.2 x5_1 p422 q422
        cases e422
        replace p422 := eq_true p422
        replace q422 := eq_true q422
        try go_wp2_with (first | ((with_reducible refine gate_callee (f := 18) rfl ?_); refine gl 40 Tryz.func18 #[.slice Ao6 t414.length co6, .agg #[.string ((rd_T46 t417 x5_1).f0.f0), .string ((rd_T46 t417 x5_1).f0.f1)]] ?_; (with_reducible refine (why_Chain.calls _ _ t414 ((rd_T46 t417 x5_1).f0.f0) ((rd_T46 t417 x5_1).f0.f1) t423 t426 _ ?side1 ?side2 A10.out).mono ?_); (case side1 => repeat (first | exact (Kd.R_reads' HO_0.out).2.2 | (with_reducible refine Kd.C_alloc ?_ _) | (with_reducible refine Kd.C_drewN ?_ _) | (with_reducible refine Kd.C_drew ?_))); (case side2 => exact (Kd.R_reads' HO_0.out).2.1); rintro e w34 ⟨v424, rfl, ho0, hb⟩; refine ⟨_, rfl, ?_⟩; have n0_ := rb HO_0 hb; have n1_ := rb HO_3 hb; have n2_ := Aside0.mk (Kd.R_lower ho0 (bz HB)); have n3_ := bs HB hb; revert n0_ n1_ n2_ n3_; clear HO_0 HO_3 HB; intro HO_0 HO_3 HO425 HB; (try clear hb); (try clear ho0)))
        have n0_ := Aside0.mk (Kd.R_drew HO_0.out)
        have n1_ := Aside0.mk (Kd.R_drew HO_3.out)
        have n2_ := Aside0.mk (Kd.R_drew HO425.out)
        have n3_ := Aside0.mk (below_drew1 HB.out)
        revert n0_ n1_ n2_ n3_
        clear HO_0 HO_3 HO425 HB
        intro HO_0 HO_3 HO425 HB
        obtain ⟨Ao36, co36, eo36⟩ := Kd.R_slice HO425.out
        (first | subst eo36 | (injection eo36 with f1_ f2_ f3_; have f4_ := f1_.symm; have f5_ := f3_.symm; clear f1_ f2_ f3_; subst f4_; subst f5_))
        have p427 : 0 ≤ (x5_1 : Int) := of_decide_eq_true (by first | (with_reducible assumption) | assumption)
        have q427 : x5_1 < (t417.length : Int) := of_decide_eq_true (by first | (with_reducible assumption) | assumption)
        obtain ⟨ad427, e427, hx427_0, hx427_1, hx427_2⟩ := at_T46 (Kd.R_reads' HO_3.out).2.2 x5_1 p427 q427
        obtain rfl : ad422 = ad427 := (by injection e427)
        replace p427 := eq_true p427
        replace q427 := eq_true q427
        refine start_ (n := 31) (S := fun w' => w'.cell? (ad422.add ((x5_1).toNat * 3)) = some (.string ((rd_T46 t417 x5_1).f0.f0)) ∧ w'.cell? ⟨(ad422.add ((x5_1).toNat * 3)).block, (ad422.add ((x5_1).toNat * 3)).off + 1, none⟩ = some (.string ((rd_T46 t417 x5_1).f0.f1)) ∧ w'.cell? ⟨(ad422.add ((x5_1).toNat * 3)).block, (ad422.add ((x5_1).toNat * 3)).off + 2, none⟩ = some (.int .i64 ((rd_T46 t417 x5_1).f1))) (ds := []) #[false, false, false, false, false, false, false, false, false, false, false, false, false, false, false, false, false, false, false, false, false, false, false, false, false, false, false, false, false, false, false] (by kernel_rfl) rfl rfl ⟨hx427_0, hx427_1, hx427_2⟩ (fun hHeld => ?_); refine with_tabW w19_WhyDepths.tab9 w19_WhyDepths.bits9 (fun HT_ HW_ => ?_)
        generalize w34.drew = w35 at HO_0 HO_3 HO425 HB hx427_0 hx427_1 hx427_2 hHeld ⊢
        refine pu 0 43 ?_
        refine pu 1 44 ?_
        refine pu 2 45 ?_
        refine pu 3 46 ?_
        refine pu 4 47 ?_
        refine pu 5 48 ?_
        refine pu 6 49 ?_
        refine pu 7 50 ?_
        refine pu 8 51 ?_
        refine tk 9 52 ?_
        refine pu 10 53 ?_
        refine pu 11 54 ?_
        refine pu 12 55 ?_
        refine pure_ (i := 13) (N := some 56) (v := undef) (a' := ?_) #[true, true, true, true, true, true, true, true, true, true, true, true, true, true, false, false, false, false, false, false, false, false, false, false, false, false, false, false, false, false, false] rfl rfl (any_of HT_.out (by kernel_rfl)) (fun _ _ _ h => h) (Or.inr ⟨by rfl, rfl⟩) ?_ ?_
        rotate_left
        ·simp only [Act.put, List.setIfInBounds_toArray, List.set_cons_zero, List.set_cons_succ, i64_w, i32_w]
         rfl
        refine pure_ (i := 14) (N := some 57) (v := undef) (a' := ?_) #[true, true, true, true, true, true, true, true, true, true, true, true, true, true, true, false, false, false, false, false, false, false, false, false, false, false, false, false, false, false, false] rfl rfl (any_of HT_.out (by kernel_rfl)) (fun _ _ _ h => h) (Or.inr ⟨by rfl, rfl⟩) ?_ ?_
        rotate_left
        ·simp only [Act.put, List.setIfInBounds_toArray, List.set_cons_zero, List.set_cons_succ, i64_w, i32_w]
         rfl
        refine pure_ (i := 15) (N := some 58) (v := undef) (a' := ?_) #[true, true, true, true, true, true, true, true, true, true, true, true, true, true, true, true, false, false, false, false, false, false, false, false, false, false, false, false, false, false, false] rfl rfl (any_of HT_.out (by kernel_rfl)) (fun _ _ _ h => h) (Or.inr ⟨by rfl, rfl⟩) ?_ ?_
        rotate_left
        ·simp only [Act.put, List.setIfInBounds_toArray, List.set_cons_zero, List.set_cons_succ, i64_w, i32_w]
         rfl
        refine pure_ (i := 16) (N := some 59) (v := undef) (a' := ?_) #[true, true, true, true, true, true, true, true, true, true, true, true, true, true, true, true, true, false, false, false, false, false, false, false, false, false, false, false, false, false, false] rfl rfl (any_of HT_.out (by kernel_rfl)) (fun _ _ _ h => h) (Or.inr ⟨by rfl, rfl⟩) ?_ ?_
        rotate_left
        ·simp only [Act.put, List.setIfInBounds_toArray, List.set_cons_zero, List.set_cons_succ, i64_w, i32_w]
         rfl
        refine pure_ (i := 17) (N := some 60) (v := undef) (a' := ?_) #[true, true, true, true, true, true, true, true, true, true, true, true, true, true, true, true, true, true, false, false, false, false, false, false, false, false, false, false, false, false, false] rfl rfl (any_of HT_.out (by kernel_rfl)) (fun _ _ _ h => h) (Or.inr ⟨by rfl, rfl⟩) ?_ ?_
        rotate_left
        ·simp only [Act.put, List.setIfInBounds_toArray, List.set_cons_zero, List.set_cons_succ, i64_w, i32_w]
         rfl
        refine pure_ (i := 18) (N := some 61) (v := undef) (a' := ?_) #[true, true, true, true, true, true, true, true, true, true, true, true, true, true, true, true, true, true, true, false, false, false, false, false, false, false, false, false, false, false, false] rfl rfl (any_of HT_.out (by kernel_rfl)) (fun _ _ _ h => h) (Or.inr ⟨by rfl, rfl⟩) ?_ ?_
        rotate_left
        ·simp only [Act.put, List.setIfInBounds_toArray, List.set_cons_zero, List.set_cons_succ, i64_w, i32_w]
         rfl
        refine pure_ (i := 19) (N := some 62) (v := undef) (a' := ?_) #[true, true, true, true, true, true, true, true, true, true, true, true, true, true, true, true, true, true, true, true, false, false, false, false, false, false, false, false, false, false, false] rfl rfl (any_of HT_.out (by kernel_rfl)) (fun _ _ _ h => h) (Or.inr ⟨by rfl, rfl⟩) ?_ ?_
        rotate_left
        ·simp only [Act.put, List.setIfInBounds_toArray, List.set_cons_zero, List.set_cons_succ, i64_w, i32_w]
         rfl
        refine pure_ (i := 20) (N := some 63) (v := undef) (a' := ?_) #[true, true, true, true, true, true, true, true, true, true, true, true, true, true, true, true, true, true, true, true, true, false, false, false, false, false, false, false, false, false, false] rfl rfl (any_of HT_.out (by kernel_rfl)) (fun _ _ _ h => h) (Or.inr ⟨by rfl, rfl⟩) ?_ ?_
        rotate_left
        ·simp only [Act.put, List.setIfInBounds_toArray, List.set_cons_zero, List.set_cons_succ, i64_w, i32_w]
         rfl
        refine pure_ (i := 21) (N := some 64) (v := undef) (a' := ?_) #[true, true, true, true, true, true, true, true, true, true, true, true, true, true, true, true, true, true, true, true, true, true, false, false, false, false, false, false, false, false, false] rfl rfl (any_of HT_.out (by kernel_rfl)) (fun _ _ _ h => h) (Or.inr ⟨by rfl, rfl⟩) ?_ ?_
        rotate_left
        ·simp only [Act.put, List.setIfInBounds_toArray, List.set_cons_zero, List.set_cons_succ, i64_w, i32_w]
         rfl
        refine pure_ (i := 22) (N := some 65) (v := undef) (a' := ?_) #[true, true, true, true, true, true, true, true, true, true, true, true, true, true, true, true, true, true, true, true, true, true, true, false, false, false, false, false, false, false, false] rfl rfl (any_of HT_.out (by kernel_rfl)) (fun _ _ _ h => h) (Or.inr ⟨by rfl, rfl⟩) ?_ ?_
        rotate_left
        ·simp only [Act.put, List.setIfInBounds_toArray, List.set_cons_zero, List.set_cons_succ, i64_w, i32_w]
         rfl
        refine pure_ (i := 23) (N := some 66) (v := undef) (a' := ?_) #[true, true, true, true, true, true, true, true, true, true, true, true, true, true, true, true, true, true, true, true, true, true, true, true, false, false, false, false, false, false, false] rfl rfl (any_of HT_.out (by kernel_rfl)) (fun _ _ _ h => h) (Or.inr ⟨by rfl, rfl⟩) ?_ ?_
        rotate_left
        ·simp only [Act.put, List.setIfInBounds_toArray, List.set_cons_zero, List.set_cons_succ, i64_w, i32_w]
         rfl
        refine pure_ (i := 24) (N := some 67) (v := undef) (a' := ?_) #[true, true, true, true, true, true, true, true, true, true, true, true, true, true, true, true, true, true, true, true, true, true, true, true, true, false, false, false, false, false, false] rfl rfl (any_of HT_.out (by kernel_rfl)) (fun _ _ _ h => h) (Or.inr ⟨by rfl, rfl⟩) ?_ ?_
        rotate_left
        ·simp only [Act.put, List.setIfInBounds_toArray, List.set_cons_zero, List.set_cons_succ, i64_w, i32_w]
         rfl
        refine pure_ (i := 25) (N := some 68) (v := undef) (a' := ?_) #[true, true, true, true, true, true, true, true, true, true, true, true, true, true, true, true, true, true, true, true, true, true, true, true, true, true, false, false, false, false, false] rfl rfl (any_of HT_.out (by kernel_rfl)) (fun _ _ _ h => h) (Or.inr ⟨by rfl, rfl⟩) ?_ ?_
        rotate_left
        ·simp only [Act.put, List.setIfInBounds_toArray, List.set_cons_zero, List.set_cons_succ, i64_w, i32_w]
         rfl
        refine pure_ (i := 26) (N := some 69) (v := undef) (a' := ?_) #[true, true, true, true, true, true, true, true, true, true, true, true, true, true, true, true, true, true, true, true, true, true, true, true, true, true, true, false, false, false, false] rfl rfl (any_of HT_.out (by kernel_rfl)) (fun _ _ _ h => h) (Or.inr ⟨by rfl, rfl⟩) ?_ ?_
        rotate_left
        ·simp only [Act.put, List.setIfInBounds_toArray, List.set_cons_zero, List.set_cons_succ, i64_w, i32_w]
         rfl
        refine pure_ (i := 27) (N := some 70) (v := undef) (a' := ?_) #[true, true, true, true, true, true, true, true, true, true, true, true, true, true, true, true, true, true, true, true, true, true, true, true, true, true, true, true, false, false, false] rfl rfl (any_of HT_.out (by kernel_rfl)) (fun _ _ _ h => h) (Or.inr ⟨by rfl, rfl⟩) ?_ ?_
        rotate_left
        ·simp only [Act.put, List.setIfInBounds_toArray, List.set_cons_zero, List.set_cons_succ, i64_w, i32_w]
         rfl
        refine pure_ (i := 28) (N := some 71) (v := undef) (a' := ?_) #[true, true, true, true, true, true, true, true, true, true, true, true, true, true, true, true, true, true, true, true, true, true, true, true, true, true, true, true, true, false, false] rfl rfl (any_of HT_.out (by kernel_rfl)) (fun _ _ _ h => h) (Or.inr ⟨by rfl, rfl⟩) ?_ ?_
        rotate_left
        ·simp only [Act.put, List.setIfInBounds_toArray, List.set_cons_zero, List.set_cons_succ, i64_w, i32_w]
         rfl
        refine pure_ (i := 29) (N := some 72) (v := undef) (a' := ?_) #[true, true, true, true, true, true, true, true, true, true, true, true, true, true, true, true, true, true, true, true, true, true, true, true, true, true, true, true, true, true, false] rfl rfl (any_of HT_.out (by kernel_rfl)) (fun _ _ _ h => h) (Or.inr ⟨by rfl, rfl⟩) ?_ ?_
        rotate_left
        ·simp only [Act.put, List.setIfInBounds_toArray, List.set_cons_zero, List.set_cons_succ, i64_w, i32_w]
         rfl
        refine pu 30 73 ?_
        refine dq ?_
        try go_wp2
        go_ret
        exact ⟨by first | rfl | (simp [errW_none, errW_some] <;> rfl) | (simp [*, errW_none, errW_some] <;> rfl), ba HB⟩
      ·rw [if_neg c11] at H
       have c11b0 := beq_eq_false_iff_ne.mpr c11
       have c11b1 := bne_iff_ne.mpr c11
       obtain rfl := Option.some.inj H
       obtain ⟨Ao37, co37, eo37⟩ := Kd.R_slice HO_3.out
       subst eo37
       have p422 : 0 ≤ (x5_1 : Int) := of_decide_eq_true (by first | (with_reducible assumption) | assumption)
       have q422 : x5_1 < (t417.length : Int) := of_decide_eq_true (by first | (with_reducible assumption) | assumption)
       obtain ⟨ad422, e422, hx422_0, hx422_1, hx422_2⟩ := at_T46 (Kd.R_reads' HO_3.out).2.2 x5_1 p422 q422
       cases e422
       replace p422 := eq_true p422
       replace q422 := eq_true q422
       try go_wp2_with (first | ((with_reducible refine gate_callee (f := 18) rfl ?_); refine gl 40 Tryz.func18 #[.slice Ao6 t414.length co6, .agg #[.string ((rd_T46 t417 x5_1).f0.f0), .string ((rd_T46 t417 x5_1).f0.f1)]] ?_; (with_reducible refine (why_Chain.calls _ _ t414 ((rd_T46 t417 x5_1).f0.f0) ((rd_T46 t417 x5_1).f0.f1) t423 t426 _ ?side1 ?side2 A10.out).mono ?_); (case side1 => repeat (first | exact (Kd.R_reads' HO_0.out).2.2 | (with_reducible refine Kd.C_alloc ?_ _) | (with_reducible refine Kd.C_drewN ?_ _) | (with_reducible refine Kd.C_drew ?_))); (case side2 => exact (Kd.R_reads' HO_0.out).2.1); rintro e w38 ⟨v424, rfl, ho0, hb⟩; refine ⟨_, rfl, ?_⟩; have n0_ := rb HO_0 hb; have n1_ := rb HO_3 hb; have n2_ := Aside0.mk (Kd.R_lower ho0 (bz HB)); have n3_ := bs HB hb; revert n0_ n1_ n2_ n3_; clear HO_0 HO_3 HB; intro HO_0 HO_3 HO425 HB; (try clear hb); (try clear ho0)))
       have n0_ := Aside0.mk (Kd.R_drew HO_0.out)
       have n1_ := Aside0.mk (Kd.R_drew HO_3.out)
       have n2_ := Aside0.mk (Kd.R_drew HO425.out)
       have n3_ := Aside0.mk (below_drew1 HB.out)
       revert n0_ n1_ n2_ n3_
       clear HO_0 HO_3 HO425 HB
       intro HO_0 HO_3 HO425 HB
       refine start_ (n := 31) (S := fun w' => True) (ds := []) #[false, false, false, false, false, false, false, false, false, false, false, false, false, false, false, false, false, false, false, false, false, false, false, false, false, false, false, false, false, false, false] (by kernel_rfl) rfl rfl trivial (fun hHeld => ?_); refine with_tabW w19_WhyDepths.tab9 w19_WhyDepths.bits9 (fun HT_ HW_ => ?_)
       generalize w38.drew = w39 at HO_0 HO_3 HO425 HB hHeld ⊢
       refine pu 0 43 ?_
       refine pu 1 44 ?_
       refine pu 2 45 ?_
       refine pure_ (i := 3) (N := some 46) (v := undef) (a' := ?_) #[true, true, true, true, false, false, false, false, false, false, false, false, false, false, false, false, false, false, false, false, false, false, false, false, false, false, false, false, false, false, false] rfl rfl (any_of HT_.out (by kernel_rfl)) (fun _ _ _ h => h) (Or.inr ⟨by rfl, rfl⟩) ?_ ?_
       rotate_left
       ·simp only [Act.put, List.setIfInBounds_toArray, List.set_cons_zero, List.set_cons_succ, i64_w, i32_w]
        rfl
       refine pure_ (i := 4) (N := some 47) (v := undef) (a' := ?_) #[true, true, true, true, true, false, false, false, false, false, false, false, false, false, false, false, false, false, false, false, false, false, false, false, false, false, false, false, false, false, false] rfl rfl (any_of HT_.out (by kernel_rfl)) (fun _ _ _ h => h) (Or.inr ⟨by rfl, rfl⟩) ?_ ?_
       rotate_left
       ·simp only [Act.put, List.setIfInBounds_toArray, List.set_cons_zero, List.set_cons_succ, i64_w, i32_w]
        rfl
       refine pure_ (i := 5) (N := some 48) (v := undef) (a' := ?_) #[true, true, true, true, true, true, false, false, false, false, false, false, false, false, false, false, false, false, false, false, false, false, false, false, false, false, false, false, false, false, false] rfl rfl (any_of HT_.out (by kernel_rfl)) (fun _ _ _ h => h) (Or.inr ⟨by rfl, rfl⟩) ?_ ?_
       rotate_left
       ·simp only [Act.put, List.setIfInBounds_toArray, List.set_cons_zero, List.set_cons_succ, i64_w, i32_w]
        rfl
       refine pure_ (i := 6) (N := some 49) (v := undef) (a' := ?_) #[true, true, true, true, true, true, true, false, false, false, false, false, false, false, false, false, false, false, false, false, false, false, false, false, false, false, false, false, false, false, false] rfl rfl (any_of HT_.out (by kernel_rfl)) (fun _ _ _ h => h) (Or.inr ⟨by rfl, rfl⟩) ?_ ?_
       rotate_left
       ·simp only [Act.put, List.setIfInBounds_toArray, List.set_cons_zero, List.set_cons_succ, i64_w, i32_w]
        rfl
       refine pure_ (i := 7) (N := some 50) (v := undef) (a' := ?_) #[true, true, true, true, true, true, true, true, false, false, false, false, false, false, false, false, false, false, false, false, false, false, false, false, false, false, false, false, false, false, false] rfl rfl (any_of HT_.out (by kernel_rfl)) (fun _ _ _ h => h) (Or.inr ⟨by rfl, rfl⟩) ?_ ?_
       rotate_left
       ·simp only [Act.put, List.setIfInBounds_toArray, List.set_cons_zero, List.set_cons_succ, i64_w, i32_w]
        rfl
       refine pure_ (i := 8) (N := some 51) (v := undef) (a' := ?_) #[true, true, true, true, true, true, true, true, true, false, false, false, false, false, false, false, false, false, false, false, false, false, false, false, false, false, false, false, false, false, false] rfl rfl (any_of HT_.out (by kernel_rfl)) (fun _ _ _ h => h) (Or.inr ⟨by rfl, rfl⟩) ?_ ?_
       rotate_left
       ·simp only [Act.put, List.setIfInBounds_toArray, List.set_cons_zero, List.set_cons_succ, i64_w, i32_w]
        rfl
       refine pure_ (i := 9) (N := some 52) (v := undef) (a' := ?_) #[true, true, true, true, true, true, true, true, true, true, false, false, false, false, false, false, false, false, false, false, false, false, false, false, false, false, false, false, false, false, false] rfl rfl (any_of HT_.out (by kernel_rfl)) (fun _ _ _ h => h) (Or.inr ⟨by rfl, rfl⟩) ?_ ?_
       rotate_left
       ·simp only [Act.put, List.setIfInBounds_toArray, List.set_cons_zero, List.set_cons_succ, i64_w, i32_w]
        rfl
       refine pure_ (i := 10) (N := some 53) (v := undef) (a' := ?_) #[true, true, true, true, true, true, true, true, true, true, true, false, false, false, false, false, false, false, false, false, false, false, false, false, false, false, false, false, false, false, false] rfl rfl (any_of HT_.out (by kernel_rfl)) (fun _ _ _ h => h) (Or.inr ⟨by rfl, rfl⟩) ?_ ?_
       rotate_left
       ·simp only [Act.put, List.setIfInBounds_toArray, List.set_cons_zero, List.set_cons_succ, i64_w, i32_w]
        rfl
       refine pu 11 54 ?_
       refine pu 12 55 ?_
       refine pure_ (i := 13) (N := some 56) (v := undef) (a' := ?_) #[true, true, true, true, true, true, true, true, true, true, true, true, true, true, false, false, false, false, false, false, false, false, false, false, false, false, false, false, false, false, false] rfl rfl (any_of HT_.out (by kernel_rfl)) (fun _ _ _ h => h) (Or.inr ⟨by rfl, rfl⟩) ?_ ?_
       rotate_left
       ·simp only [Act.put, List.setIfInBounds_toArray, List.set_cons_zero, List.set_cons_succ, i64_w, i32_w]
        rfl
       refine pure_ (i := 14) (N := some 57) (v := undef) (a' := ?_) #[true, true, true, true, true, true, true, true, true, true, true, true, true, true, true, false, false, false, false, false, false, false, false, false, false, false, false, false, false, false, false] rfl rfl (any_of HT_.out (by kernel_rfl)) (fun _ _ _ h => h) (Or.inr ⟨by rfl, rfl⟩) ?_ ?_
       rotate_left
       ·simp only [Act.put, List.setIfInBounds_toArray, List.set_cons_zero, List.set_cons_succ, i64_w, i32_w]
        rfl
       refine pure_ (i := 15) (N := some 58) (v := undef) (a' := ?_) #[true, true, true, true, true, true, true, true, true, true, true, true, true, true, true, true, false, false, false, false, false, false, false, false, false, false, false, false, false, false, false] rfl rfl (any_of HT_.out (by kernel_rfl)) (fun _ _ _ h => h) (Or.inr ⟨by rfl, rfl⟩) ?_ ?_
       rotate_left
       ·simp only [Act.put, List.setIfInBounds_toArray, List.set_cons_zero, List.set_cons_succ, i64_w, i32_w]
        rfl
       refine pure_ (i := 16) (N := some 59) (v := undef) (a' := ?_) #[true, true, true, true, true, true, true, true, true, true, true, true, true, true, true, true, true, false, false, false, false, false, false, false, false, false, false, false, false, false, false] rfl rfl (any_of HT_.out (by kernel_rfl)) (fun _ _ _ h => h) (Or.inr ⟨by rfl, rfl⟩) ?_ ?_
       rotate_left
       ·simp only [Act.put, List.setIfInBounds_toArray, List.set_cons_zero, List.set_cons_succ, i64_w, i32_w]
        rfl
       refine pure_ (i := 17) (N := some 60) (v := undef) (a' := ?_) #[true, true, true, true, true, true, true, true, true, true, true, true, true, true, true, true, true, true, false, false, false, false, false, false, false, false, false, false, false, false, false] rfl rfl (any_of HT_.out (by kernel_rfl)) (fun _ _ _ h => h) (Or.inr ⟨by rfl, rfl⟩) ?_ ?_
       rotate_left
       ·simp only [Act.put, List.setIfInBounds_toArray, List.set_cons_zero, List.set_cons_succ, i64_w, i32_w]
        rfl
       refine pure_ (i := 18) (N := some 61) (v := undef) (a' := ?_) #[true, true, true, true, true, true, true, true, true, true, true, true, true, true, true, true, true, true, true, false, false, false, false, false, false, false, false, false, false, false, false] rfl rfl (any_of HT_.out (by kernel_rfl)) (fun _ _ _ h => h) (Or.inr ⟨by rfl, rfl⟩) ?_ ?_
       rotate_left
       ·simp only [Act.put, List.setIfInBounds_toArray, List.set_cons_zero, List.set_cons_succ, i64_w, i32_w]
        rfl
       refine pure_ (i := 19) (N := some 62) (v := undef) (a' := ?_) #[true, true, true, true, true, true, true, true, true, true, true, true, true, true, true, true, true, true, true, true, false, false, false, false, false, false, false, false, false, false, false] rfl rfl (any_of HT_.out (by kernel_rfl)) (fun _ _ _ h => h) (Or.inr ⟨by rfl, rfl⟩) ?_ ?_
       rotate_left
       ·simp only [Act.put, List.setIfInBounds_toArray, List.set_cons_zero, List.set_cons_succ, i64_w, i32_w]
        rfl
       refine pure_ (i := 20) (N := some 63) (v := undef) (a' := ?_) #[true, true, true, true, true, true, true, true, true, true, true, true, true, true, true, true, true, true, true, true, true, false, false, false, false, false, false, false, false, false, false] rfl rfl (any_of HT_.out (by kernel_rfl)) (fun _ _ _ h => h) (Or.inr ⟨by rfl, rfl⟩) ?_ ?_
       rotate_left
       ·simp only [Act.put, List.setIfInBounds_toArray, List.set_cons_zero, List.set_cons_succ, i64_w, i32_w]
        rfl
       refine pure_ (i := 21) (N := some 64) (v := undef) (a' := ?_) #[true, true, true, true, true, true, true, true, true, true, true, true, true, true, true, true, true, true, true, true, true, true, false, false, false, false, false, false, false, false, false] rfl rfl (any_of HT_.out (by kernel_rfl)) (fun _ _ _ h => h) (Or.inr ⟨by rfl, rfl⟩) ?_ ?_
       rotate_left
       ·simp only [Act.put, List.setIfInBounds_toArray, List.set_cons_zero, List.set_cons_succ, i64_w, i32_w]
        rfl
       refine pure_ (i := 22) (N := some 65) (v := undef) (a' := ?_) #[true, true, true, true, true, true, true, true, true, true, true, true, true, true, true, true, true, true, true, true, true, true, true, false, false, false, false, false, false, false, false] rfl rfl (any_of HT_.out (by kernel_rfl)) (fun _ _ _ h => h) (Or.inr ⟨by rfl, rfl⟩) ?_ ?_
       rotate_left
       ·simp only [Act.put, List.setIfInBounds_toArray, List.set_cons_zero, List.set_cons_succ, i64_w, i32_w]
        rfl
       refine pure_ (i := 23) (N := some 66) (v := undef) (a' := ?_) #[true, true, true, true, true, true, true, true, true, true, true, true, true, true, true, true, true, true, true, true, true, true, true, true, false, false, false, false, false, false, false] rfl rfl (any_of HT_.out (by kernel_rfl)) (fun _ _ _ h => h) (Or.inr ⟨by rfl, rfl⟩) ?_ ?_
       rotate_left
       ·simp only [Act.put, List.setIfInBounds_toArray, List.set_cons_zero, List.set_cons_succ, i64_w, i32_w]
        rfl
       refine pure_ (i := 24) (N := some 67) (v := undef) (a' := ?_) #[true, true, true, true, true, true, true, true, true, true, true, true, true, true, true, true, true, true, true, true, true, true, true, true, true, false, false, false, false, false, false] rfl rfl (any_of HT_.out (by kernel_rfl)) (fun _ _ _ h => h) (Or.inr ⟨by rfl, rfl⟩) ?_ ?_
       rotate_left
       ·simp only [Act.put, List.setIfInBounds_toArray, List.set_cons_zero, List.set_cons_succ, i64_w, i32_w]
        rfl
       refine pure_ (i := 25) (N := some 68) (v := undef) (a' := ?_) #[true, true, true, true, true, true, true, true, true, true, true, true, true, true, true, true, true, true, true, true, true, true, true, true, true, true, false, false, false, false, false] rfl rfl (any_of HT_.out (by kernel_rfl)) (fun _ _ _ h => h) (Or.inr ⟨by rfl, rfl⟩) ?_ ?_
       rotate_left
       ·simp only [Act.put, List.setIfInBounds_toArray, List.set_cons_zero, List.set_cons_succ, i64_w, i32_w]
        rfl
       refine pure_ (i := 26) (N := some 69) (v := undef) (a' := ?_) #[true, true, true, true, true, true, true, true, true, true, true, true, true, true, true, true, true, true, true, true, true, true, true, true, true, true, true, false, false, false, false] rfl rfl (any_of HT_.out (by kernel_rfl)) (fun _ _ _ h => h) (Or.inr ⟨by rfl, rfl⟩) ?_ ?_
       rotate_left
       ·simp only [Act.put, List.setIfInBounds_toArray, List.set_cons_zero, List.set_cons_succ, i64_w, i32_w]
        rfl
       refine pure_ (i := 27) (N := some 70) (v := undef) (a' := ?_) #[true, true, true, true, true, true, true, true, true, true, true, true, true, true, true, true, true, true, true, true, true, true, true, true, true, true, true, true, false, false, false] rfl rfl (any_of HT_.out (by kernel_rfl)) (fun _ _ _ h => h) (Or.inr ⟨by rfl, rfl⟩) ?_ ?_
       rotate_left
       ·simp only [Act.put, List.setIfInBounds_toArray, List.set_cons_zero, List.set_cons_succ, i64_w, i32_w]
        rfl
       refine pure_ (i := 28) (N := some 71) (v := undef) (a' := ?_) #[true, true, true, true, true, true, true, true, true, true, true, true, true, true, true, true, true, true, true, true, true, true, true, true, true, true, true, true, true, false, false] rfl rfl (any_of HT_.out (by kernel_rfl)) (fun _ _ _ h => h) (Or.inr ⟨by rfl, rfl⟩) ?_ ?_
       rotate_left
       ·simp only [Act.put, List.setIfInBounds_toArray, List.set_cons_zero, List.set_cons_succ, i64_w, i32_w]
        rfl
       refine pure_ (i := 29) (N := some 72) (v := undef) (a' := ?_) #[true, true, true, true, true, true, true, true, true, true, true, true, true, true, true, true, true, true, true, true, true, true, true, true, true, true, true, true, true, true, false] rfl rfl (any_of HT_.out (by kernel_rfl)) (fun _ _ _ h => h) (Or.inr ⟨by rfl, rfl⟩) ?_ ?_
       rotate_left
       ·simp only [Act.put, List.setIfInBounds_toArray, List.set_cons_zero, List.set_cons_succ, i64_w, i32_w]
        rfl
       refine pu 30 73 ?_
       refine dq ?_
       try go_wp2
       go_ret
       exact ⟨by first | rfl | (simp [errW_none, errW_some] <;> rfl) | (simp [*, errW_none, errW_some] <;> rfl), ba HB⟩
     ·rw [if_neg c9] at H
      exact absurd H (by simp)
    ·rw [if_neg c8] at H
     have c8b0 : decide (x5_1 < (t417.length : Int)) = false := decide_eq_false c8
     clear c8
     have H' := Aside0.mk H
     clear H
     obtain ⟨Ao40, co40, eo40⟩ := Kd.R_slice HO_3.out
     subst eo40
     go_wp2
     go_loopg [8] k1 (fun kq v8 w' => ∃ (x8_2 : Int), v8 = .int .i64 x8_2 ∧ Aside0 (w19_WhyDepths.l1 kq t414 t417 x8_2 = some r) ∧ Aside0 (kq ≤ k1) ∧ Aside0 (Kd.R k49 49 w' w.heap.size (fun _ => True) (.slice Ao6 t414.length co6) t414) ∧ Aside0 (Kd.R k46 46 w' w.heap.size (fun _ => True) (.slice Ao40 t417.length co40) t417) ∧ Aside0 (Below w.heap.size w w'))
     case atStart => exact ⟨(0), (by first | rfl | (simp; done) | (simp [*]; done)), H', ⟨Nat.le_refl _⟩, ⟨ra HO_0⟩, ⟨ra HO_3⟩, ⟨ba HB⟩⟩
     case round =>
      clear H'
      try clear c1
      try clear p2
      try clear p4
      try clear q4
      try clear hx4
      try clear p6
      try clear c8
      try clear c8b0
      try clear c9
      try clear c11
      try clear c11b0
      try clear c11b1
      try clear c12
      try clear c12b0
      try clear c12b1
      try clear c18
      try clear hx422_0
      try clear hx422_1
      try clear hx422_2
      try clear hx427_0
      try clear hx427_1
      try clear hx427_2
      try clear p422
      try clear p427
      try clear q422
      try clear q427
      obtain ⟨x8_2, rfl, HA, HK2, HO_0, HO_3, HB⟩ := hrel
      cases gk with
      | zero => exact absurd HA.out (by simp [w19_WhyDepths.l1])
      | succ k2 =>
       have H := HA.out
       clear HA
       simp only [w19_WhyDepths.l1] at H
       by_cases c41 : x8_2 < (t414.length : Int)
       ·rw [if_pos c41] at H
        have c41b0 : decide (x8_2 < (t414.length : Int)) = true := decide_eq_true c41
        clear c41
        have H' := Aside0.mk H
        clear H
        go_wp2
        go_loopg [9, 10, 11] k2 (fun kq v9 v10 v11 w' => ∃ (x9_3 : Int) (x10_3 : Int) (x11_3 : Int), v9 = .int .i64 x9_3 ∧ v10 = .int .i64 x10_3 ∧ v11 = .int .i64 x11_3 ∧ Aside0 (w19_WhyDepths.l2 kq t414 t417 x8_2 x9_3 x10_3 x11_3 = some r) ∧ Aside0 (kq ≤ k2) ∧ Aside0 (Kd.R k49 49 w' w.heap.size (fun _ => True) (.slice Ao6 t414.length co6) t414) ∧ Aside0 (Kd.R k46 46 w' w.heap.size (fun _ => True) (.slice Ao40 t417.length co40) t417) ∧ Aside0 (Below w.heap.size w w'))
        case atStart => exact ⟨(0), (0), (0), (by first | rfl | (simp; done) | (simp [*]; done)), (by first | rfl | (simp; done) | (simp [*]; done)), (by first | rfl | (simp; done) | (simp [*]; done)), H', ⟨Nat.le_refl _⟩, ⟨ra HO_0⟩, ⟨ra HO_3⟩, ⟨ba HB⟩⟩
        case round =>
         clear H'
         try clear c1
         try clear p2
         try clear c4
         try clear p4
         try clear q4
         try clear hx4
         try clear p6
         try clear c8
         try clear c8b0
         try clear c9
         try clear c11
         try clear c11b0
         try clear c11b1
         try clear c12
         try clear c12b0
         try clear c12b1
         try clear c18
         try clear c41
         try clear c41b0
         try clear hx422_0
         try clear hx422_1
         try clear hx422_2
         try clear hx427_0
         try clear hx427_1
         try clear hx427_2
         try clear p2
         try clear p4
         try clear p422
         try clear p427
         try clear p6
         try clear q4
         try clear q422
         try clear q427
         obtain ⟨x9_3, x10_3, x11_3, rfl, rfl, rfl, HA, HK3, HO_0, HO_3, HB⟩ := hrel
         cases gk with
         | zero => exact absurd HA.out (by simp [w19_WhyDepths.l2])
         | succ k3 =>
          have H := HA.out
          clear HA
          simp only [w19_WhyDepths.l2] at H
          by_cases c42 : x11_3 < (t417.length : Int)
          ·rw [if_pos c42] at H
           have c42b0 : decide (x11_3 < (t417.length : Int)) = true := decide_eq_true c42
           clear c42
           by_cases c43 : 0 ≤ x11_3
           ·rw [if_pos c43] at H
            have c43b0 : decide (0 ≤ x11_3) = true := decide_eq_true c43
            clear c43
            by_cases c44 : 0 ≤ x8_2
            ·rw [if_pos c44] at H
             have c44b0 : decide (0 ≤ x8_2) = true := decide_eq_true c44
             clear c44
             by_cases c45 : x8_2 < (t414.length : Int)
             ·rw [if_pos c45] at H
              have c45b0 : decide (x8_2 < (t414.length : Int)) = true := decide_eq_true c45
              clear c45
              by_cases c46 : ((((rd_T46 t417 x11_3).f0.f0).toList) == (((rd_T49 t414 x8_2).f0.f0).toList) && ((((rd_T46 t417 x11_3).f0.f1).toList) == (((rd_T49 t414 x8_2).f0.f1).toList))) = true
              ·rw [if_pos c46] at H
               have c46b0 : ((((rd_T46 t417 x11_3).f0.f0).toList) == (((rd_T49 t414 x8_2).f0.f0).toList) && ((((rd_T46 t417 x11_3).f0.f1).toList) == (((rd_T49 t414 x8_2).f0.f1).toList))) = true := c46
               (try (have c46b1 : decide ((((rd_T46 t417 x11_3).f0.f0).toList) = (((rd_T49 t414 x8_2).f0.f0).toList) && ((((rd_T46 t417 x11_3).f0.f1).toList) == (((rd_T49 t414 x8_2).f0.f1).toList))) = true := by simpa using c46))
               (try (have c46b2 : ((((rd_T46 t417 x11_3).f0.f0).toList) == (((rd_T49 t414 x8_2).f0.f0).toList) && ((((rd_T46 t417 x11_3).f0.f1).toList) == (((rd_T49 t414 x8_2).f0.f1).toList))) = true := by simpa using c46))
               clear c46
               by_cases c47 : ((((rd_T46 t417 x11_3).f0.f0).toList) == (((rd_T49 t414 x8_2).f1.f0).toList) && ((((rd_T46 t417 x11_3).f0.f1).toList) == (((rd_T49 t414 x8_2).f1.f1).toList))) = true
               ·rw [if_pos c47] at H
                have c47b0 : ((((rd_T46 t417 x11_3).f0.f0).toList) == (((rd_T49 t414 x8_2).f1.f0).toList) && ((((rd_T46 t417 x11_3).f0.f1).toList) == (((rd_T49 t414 x8_2).f1.f1).toList))) = true := c47
                (try (have c47b1 : decide ((((rd_T46 t417 x11_3).f0.f0).toList) = (((rd_T49 t414 x8_2).f1.f0).toList) && ((((rd_T46 t417 x11_3).f0.f1).toList) == (((rd_T49 t414 x8_2).f1.f1).toList))) = true := by simpa using c47))
                (try (have c47b2 : ((((rd_T46 t417 x11_3).f0.f0).toList) == (((rd_T49 t414 x8_2).f1.f0).toList) && ((((rd_T46 t417 x11_3).f0.f1).toList) == (((rd_T49 t414 x8_2).f1.f1).toList))) = true := by simpa using c47))
                clear c47
                have H' := Aside0.mk H
                clear H
                try go_wp2
                have n0_ := Aside0.mk (Kd.R_drew HO_0.out)
                have n1_ := Aside0.mk (Kd.R_drew HO_3.out)
                have n2_ := Aside0.mk (below_drew1 HB.out)
                revert n0_ n1_ n2_
                clear HO_0 HO_3 HB
                intro HO_0 HO_3 HB
                have p433 : 0 ≤ (x11_3 : Int) := of_decide_eq_true (by first | (with_reducible assumption) | assumption)
                have q433 : x11_3 < (t417.length : Int) := of_decide_eq_true (by first | (with_reducible assumption) | assumption)
                obtain ⟨ad433, e433, hx433_0, hx433_1, hx433_2⟩ := at_T46 (Kd.R_reads' HO_3.out).2.2 x11_3 p433 q433
                cases e433
                replace p433 := eq_true p433
                replace q433 := eq_true q433
                have p434 : 0 ≤ (x8_2 : Int) := of_decide_eq_true (by first | (with_reducible assumption) | assumption)
                have q434 : x8_2 < (t414.length : Int) := of_decide_eq_true (by first | (with_reducible assumption) | assumption)
                obtain ⟨ad434, e434, hx434_0, hx434_1, hx434_2, hx434_3⟩ := at_T49 (Kd.R_reads' HO_0.out).2.2 x8_2 p434 q434
                cases e434
                replace p434 := eq_true p434
                replace q434 := eq_true q434
                refine start_ (n := 11) (S := fun w' => w'.cell? (ad433.add ((x11_3).toNat * 3)) = some (.string ((rd_T46 t417 x11_3).f0.f0)) ∧ w'.cell? ⟨(ad433.add ((x11_3).toNat * 3)).block, (ad433.add ((x11_3).toNat * 3)).off + 1, none⟩ = some (.string ((rd_T46 t417 x11_3).f0.f1)) ∧ w'.cell? ⟨(ad433.add ((x11_3).toNat * 3)).block, (ad433.add ((x11_3).toNat * 3)).off + 2, none⟩ = some (.int .i64 ((rd_T46 t417 x11_3).f1)) ∧ w'.cell? (ad434.add ((x8_2).toNat * 4)) = some (.string ((rd_T49 t414 x8_2).f0.f0)) ∧ w'.cell? ⟨(ad434.add ((x8_2).toNat * 4)).block, (ad434.add ((x8_2).toNat * 4)).off + 1, none⟩ = some (.string ((rd_T49 t414 x8_2).f0.f1)) ∧ w'.cell? ⟨(ad434.add ((x8_2).toNat * 4)).block, (ad434.add ((x8_2).toNat * 4)).off + 2, none⟩ = some (.string ((rd_T49 t414 x8_2).f1.f0)) ∧ w'.cell? ⟨(ad434.add ((x8_2).toNat * 4)).block, (ad434.add ((x8_2).toNat * 4)).off + 3, none⟩ = some (.string ((rd_T49 t414 x8_2).f1.f1))) (ds := []) #[false, false, false, false, false, false, false, false, false, false, false] (by kernel_rfl) rfl rfl ⟨hx433_0, hx433_1, hx433_2, hx434_0, hx434_1, hx434_2, hx434_3⟩ (fun hHeld => ?_); refine with_tabW w19_WhyDepths.tab18 w19_WhyDepths.bits18 (fun HT_ HW_ => ?_)
                generalize wr.drew = w48 at HO_0 HO_3 HB hx433_0 hx433_1 hx433_2 hx434_0 hx434_1 hx434_2 hx434_3 hHeld ⊢
                refine pu 0 86 ?_
                refine pu 1 87 ?_
                refine pu 2 88 ?_
                refine pu 3 89 ?_
                refine pu 5 91 ?_
                refine pu 6 92 ?_
                refine pu 7 93 ?_
                refine pu 8 94 ?_
                refine tk 4 90 ?_
                refine tk 9 95 ?_
                refine pu 10 96 ?_
                refine dq ?_
                have p435 : 0 ≤ (x11_3 : Int) := of_decide_eq_true (by first | (with_reducible assumption) | assumption)
                have q435 : x11_3 < (t417.length : Int) := of_decide_eq_true (by first | (with_reducible assumption) | assumption)
                obtain ⟨ad435, e435, hx435_0, hx435_1, hx435_2⟩ := at_T46 (Kd.R_reads' HO_3.out).2.2 x11_3 p435 q435
                obtain rfl : ad433 = ad435 := (by injection e435)
                replace p435 := eq_true p435
                replace q435 := eq_true q435
                try go_wp2
                have n0_ := Aside0.mk (Kd.R_drew HO_0.out)
                have n1_ := Aside0.mk (Kd.R_drew HO_3.out)
                have n2_ := Aside0.mk (below_drew1 HB.out)
                revert n0_ n1_ n2_
                clear HO_0 HO_3 HB
                intro HO_0 HO_3 HB
                have p436 : 0 ≤ (x11_3 : Int) := of_decide_eq_true (by first | (with_reducible assumption) | assumption)
                have q436 : x11_3 < (t417.length : Int) := of_decide_eq_true (by first | (with_reducible assumption) | assumption)
                obtain ⟨ad436, e436, hx436_0, hx436_1, hx436_2⟩ := at_T46 (Kd.R_reads' HO_3.out).2.2 x11_3 p436 q436
                obtain rfl : ad433 = ad436 := (by injection e436)
                replace p436 := eq_true p436
                replace q436 := eq_true q436
                have p437 : 0 ≤ (x8_2 : Int) := of_decide_eq_true (by first | (with_reducible assumption) | assumption)
                have q437 : x8_2 < (t414.length : Int) := of_decide_eq_true (by first | (with_reducible assumption) | assumption)
                obtain ⟨ad437, e437, hx437_0, hx437_1, hx437_2, hx437_3⟩ := at_T49 (Kd.R_reads' HO_0.out).2.2 x8_2 p437 q437
                obtain rfl : ad434 = ad437 := (by injection e437)
                replace p437 := eq_true p437
                replace q437 := eq_true q437
                refine start_ (n := 11) (S := fun w' => w'.cell? (ad433.add ((x11_3).toNat * 3)) = some (.string ((rd_T46 t417 x11_3).f0.f0)) ∧ w'.cell? ⟨(ad433.add ((x11_3).toNat * 3)).block, (ad433.add ((x11_3).toNat * 3)).off + 1, none⟩ = some (.string ((rd_T46 t417 x11_3).f0.f1)) ∧ w'.cell? ⟨(ad433.add ((x11_3).toNat * 3)).block, (ad433.add ((x11_3).toNat * 3)).off + 2, none⟩ = some (.int .i64 ((rd_T46 t417 x11_3).f1)) ∧ w'.cell? (ad434.add ((x8_2).toNat * 4)) = some (.string ((rd_T49 t414 x8_2).f0.f0)) ∧ w'.cell? ⟨(ad434.add ((x8_2).toNat * 4)).block, (ad434.add ((x8_2).toNat * 4)).off + 1, none⟩ = some (.string ((rd_T49 t414 x8_2).f0.f1)) ∧ w'.cell? ⟨(ad434.add ((x8_2).toNat * 4)).block, (ad434.add ((x8_2).toNat * 4)).off + 2, none⟩ = some (.string ((rd_T49 t414 x8_2).f1.f0)) ∧ w'.cell? ⟨(ad434.add ((x8_2).toNat * 4)).block, (ad434.add ((x8_2).toNat * 4)).off + 3, none⟩ = some (.string ((rd_T49 t414 x8_2).f1.f1))) (ds := []) #[false, false, false, false, false, false, false, false, false, false, false] (by kernel_rfl) rfl rfl ⟨hx436_0, hx436_1, hx436_2, hx437_0, hx437_1, hx437_2, hx437_3⟩ (fun hHeld => ?_); refine with_tabW w19_WhyDepths.tab20 w19_WhyDepths.bits20 (fun HT_ HW_ => ?_)
                generalize w48.drew = w49 at HO_0 HO_3 HB hx436_0 hx436_1 hx436_2 hx437_0 hx437_1 hx437_2 hx437_3 hHeld ⊢
                refine pu 0 102 ?_
                refine pu 1 103 ?_
                refine pu 2 104 ?_
                refine pu 3 105 ?_
                refine pu 5 107 ?_
                refine pu 6 108 ?_
                refine pu 7 109 ?_
                refine pu 8 110 ?_
                refine tk 4 106 ?_
                refine tk 9 111 ?_
                refine pu 10 112 ?_
                refine dq ?_
                have p438 : 0 ≤ (x11_3 : Int) := of_decide_eq_true (by first | (with_reducible assumption) | assumption)
                have q438 : x11_3 < (t417.length : Int) := of_decide_eq_true (by first | (with_reducible assumption) | assumption)
                obtain ⟨ad438, e438, hx438_0, hx438_1, hx438_2⟩ := at_T46 (Kd.R_reads' HO_3.out).2.2 x11_3 p438 q438
                obtain rfl : ad433 = ad438 := (by injection e438)
                replace p438 := eq_true p438
                replace q438 := eq_true q438
                try go_wp2
                go_roundg k3
                case measure => have := HK1.out; have := HK2.out; have := HK3.out; omega
                case rel => exact ⟨((rd_T46 t417 x11_3).f1), ((rd_T46 t417 x11_3).f1), (wrap64 (x11_3 + 1)), (by first | rfl | (simp; done) | (simp [*]; done)), (by first | rfl | (simp; done) | (simp [*]; done)), (by first | rfl | (simp; done) | (simp [*]; done)), H', ⟨by have := HK1.out; have := HK2.out; have := HK3.out; omega⟩, ⟨ra HO_0⟩, ⟨ra HO_3⟩, ⟨ba HB⟩⟩
               ·rw [if_neg c47] at H
                have c47b0 : ((((rd_T46 t417 x11_3).f0.f0).toList) == (((rd_T49 t414 x8_2).f1.f0).toList) && ((((rd_T46 t417 x11_3).f0.f1).toList) == (((rd_T49 t414 x8_2).f1.f1).toList))) = false := by simpa using c47
                (try (have c47b1 : decide ((((rd_T46 t417 x11_3).f0.f0).toList) = (((rd_T49 t414 x8_2).f1.f0).toList) && ((((rd_T46 t417 x11_3).f0.f1).toList) == (((rd_T49 t414 x8_2).f1.f1).toList))) = false := by simpa using c47))
                (try (have c47b2 : ((((rd_T46 t417 x11_3).f0.f0).toList) == (((rd_T49 t414 x8_2).f1.f0).toList) && ((((rd_T46 t417 x11_3).f0.f1).toList) == (((rd_T49 t414 x8_2).f1.f1).toList))) = false := by simpa using c47))
                (try (have c47b3 : ¬ ((((rd_T46 t417 x11_3).f0.f0).toList) = (((rd_T49 t414 x8_2).f1.f0).toList) && ((((rd_T46 t417 x11_3).f0.f1).toList) == (((rd_T49 t414 x8_2).f1.f1).toList))) := by simpa using c47))
                clear c47
                have H' := Aside0.mk H
                clear H
                try go_wp2
                have n0_ := Aside0.mk (Kd.R_drew HO_0.out)
                have n1_ := Aside0.mk (Kd.R_drew HO_3.out)
                have n2_ := Aside0.mk (below_drew1 HB.out)
                revert n0_ n1_ n2_
                clear HO_0 HO_3 HB
                intro HO_0 HO_3 HB
                have p433 : 0 ≤ (x11_3 : Int) := of_decide_eq_true (by first | (with_reducible assumption) | assumption)
                have q433 : x11_3 < (t417.length : Int) := of_decide_eq_true (by first | (with_reducible assumption) | assumption)
                obtain ⟨ad433, e433, hx433_0, hx433_1, hx433_2⟩ := at_T46 (Kd.R_reads' HO_3.out).2.2 x11_3 p433 q433
                cases e433
                replace p433 := eq_true p433
                replace q433 := eq_true q433
                have p434 : 0 ≤ (x8_2 : Int) := of_decide_eq_true (by first | (with_reducible assumption) | assumption)
                have q434 : x8_2 < (t414.length : Int) := of_decide_eq_true (by first | (with_reducible assumption) | assumption)
                obtain ⟨ad434, e434, hx434_0, hx434_1, hx434_2, hx434_3⟩ := at_T49 (Kd.R_reads' HO_0.out).2.2 x8_2 p434 q434
                cases e434
                replace p434 := eq_true p434
                replace q434 := eq_true q434
                refine start_ (n := 11) (S := fun w' => w'.cell? (ad433.add ((x11_3).toNat * 3)) = some (.string ((rd_T46 t417 x11_3).f0.f0)) ∧ w'.cell? ⟨(ad433.add ((x11_3).toNat * 3)).block, (ad433.add ((x11_3).toNat * 3)).off + 1, none⟩ = some (.string ((rd_T46 t417 x11_3).f0.f1)) ∧ w'.cell? ⟨(ad433.add ((x11_3).toNat * 3)).block, (ad433.add ((x11_3).toNat * 3)).off + 2, none⟩ = some (.int .i64 ((rd_T46 t417 x11_3).f1)) ∧ w'.cell? (ad434.add ((x8_2).toNat * 4)) = some (.string ((rd_T49 t414 x8_2).f0.f0)) ∧ w'.cell? ⟨(ad434.add ((x8_2).toNat * 4)).block, (ad434.add ((x8_2).toNat * 4)).off + 1, none⟩ = some (.string ((rd_T49 t414 x8_2).f0.f1)) ∧ w'.cell? ⟨(ad434.add ((x8_2).toNat * 4)).block, (ad434.add ((x8_2).toNat * 4)).off + 2, none⟩ = some (.string ((rd_T49 t414 x8_2).f1.f0)) ∧ w'.cell? ⟨(ad434.add ((x8_2).toNat * 4)).block, (ad434.add ((x8_2).toNat * 4)).off + 3, none⟩ = some (.string ((rd_T49 t414 x8_2).f1.f1))) (ds := []) #[false, false, false, false, false, false, false, false, false, false, false] (by kernel_rfl) rfl rfl ⟨hx433_0, hx433_1, hx433_2, hx434_0, hx434_1, hx434_2, hx434_3⟩ (fun hHeld => ?_); refine with_tabW w19_WhyDepths.tab18 w19_WhyDepths.bits18 (fun HT_ HW_ => ?_)
                generalize wr.drew = w50 at HO_0 HO_3 HB hx433_0 hx433_1 hx433_2 hx434_0 hx434_1 hx434_2 hx434_3 hHeld ⊢
                refine pu 0 86 ?_
                refine pu 1 87 ?_
                refine pu 2 88 ?_
                refine pu 3 89 ?_
                refine pu 5 91 ?_
                refine pu 6 92 ?_
                refine pu 7 93 ?_
                refine pu 8 94 ?_
                refine tk 4 90 ?_
                refine tk 9 95 ?_
                refine pu 10 96 ?_
                refine dq ?_
                have p435 : 0 ≤ (x11_3 : Int) := of_decide_eq_true (by first | (with_reducible assumption) | assumption)
                have q435 : x11_3 < (t417.length : Int) := of_decide_eq_true (by first | (with_reducible assumption) | assumption)
                obtain ⟨ad435, e435, hx435_0, hx435_1, hx435_2⟩ := at_T46 (Kd.R_reads' HO_3.out).2.2 x11_3 p435 q435
                obtain rfl : ad433 = ad435 := (by injection e435)
                replace p435 := eq_true p435
                replace q435 := eq_true q435
                try go_wp2
                have n0_ := Aside0.mk (Kd.R_drew HO_0.out)
                have n1_ := Aside0.mk (Kd.R_drew HO_3.out)
                have n2_ := Aside0.mk (below_drew1 HB.out)
                revert n0_ n1_ n2_
                clear HO_0 HO_3 HB
                intro HO_0 HO_3 HB
                have p436 : 0 ≤ (x11_3 : Int) := of_decide_eq_true (by first | (with_reducible assumption) | assumption)
                have q436 : x11_3 < (t417.length : Int) := of_decide_eq_true (by first | (with_reducible assumption) | assumption)
                obtain ⟨ad436, e436, hx436_0, hx436_1, hx436_2⟩ := at_T46 (Kd.R_reads' HO_3.out).2.2 x11_3 p436 q436
                obtain rfl : ad433 = ad436 := (by injection e436)
                replace p436 := eq_true p436
                replace q436 := eq_true q436
                have p437 : 0 ≤ (x8_2 : Int) := of_decide_eq_true (by first | (with_reducible assumption) | assumption)
                have q437 : x8_2 < (t414.length : Int) := of_decide_eq_true (by first | (with_reducible assumption) | assumption)
                obtain ⟨ad437, e437, hx437_0, hx437_1, hx437_2, hx437_3⟩ := at_T49 (Kd.R_reads' HO_0.out).2.2 x8_2 p437 q437
                obtain rfl : ad434 = ad437 := (by injection e437)
                replace p437 := eq_true p437
                replace q437 := eq_true q437
                refine start_ (n := 11) (S := fun w' => w'.cell? (ad433.add ((x11_3).toNat * 3)) = some (.string ((rd_T46 t417 x11_3).f0.f0)) ∧ w'.cell? ⟨(ad433.add ((x11_3).toNat * 3)).block, (ad433.add ((x11_3).toNat * 3)).off + 1, none⟩ = some (.string ((rd_T46 t417 x11_3).f0.f1)) ∧ w'.cell? ⟨(ad433.add ((x11_3).toNat * 3)).block, (ad433.add ((x11_3).toNat * 3)).off + 2, none⟩ = some (.int .i64 ((rd_T46 t417 x11_3).f1)) ∧ w'.cell? (ad434.add ((x8_2).toNat * 4)) = some (.string ((rd_T49 t414 x8_2).f0.f0)) ∧ w'.cell? ⟨(ad434.add ((x8_2).toNat * 4)).block, (ad434.add ((x8_2).toNat * 4)).off + 1, none⟩ = some (.string ((rd_T49 t414 x8_2).f0.f1)) ∧ w'.cell? ⟨(ad434.add ((x8_2).toNat * 4)).block, (ad434.add ((x8_2).toNat * 4)).off + 2, none⟩ = some (.string ((rd_T49 t414 x8_2).f1.f0)) ∧ w'.cell? ⟨(ad434.add ((x8_2).toNat * 4)).block, (ad434.add ((x8_2).toNat * 4)).off + 3, none⟩ = some (.string ((rd_T49 t414 x8_2).f1.f1))) (ds := []) #[false, false, false, false, false, false, false, false, false, false, false] (by kernel_rfl) rfl rfl ⟨hx436_0, hx436_1, hx436_2, hx437_0, hx437_1, hx437_2, hx437_3⟩ (fun hHeld => ?_); refine with_tabW w19_WhyDepths.tab20 w19_WhyDepths.bits20 (fun HT_ HW_ => ?_)
                generalize w50.drew = w51 at HO_0 HO_3 HB hx436_0 hx436_1 hx436_2 hx437_0 hx437_1 hx437_2 hx437_3 hHeld ⊢
                refine pu 0 102 ?_
                refine pu 1 103 ?_
                refine pu 2 104 ?_
                refine pu 3 105 ?_
                refine pu 5 107 ?_
                refine pu 6 108 ?_
                refine pu 7 109 ?_
                refine pu 8 110 ?_
                refine tk 4 106 ?_
                refine tk 9 111 ?_
                refine pu 10 112 ?_
                refine dq ?_
                try go_wp2
                go_roundg k3
                case measure => have := HK1.out; have := HK2.out; have := HK3.out; omega
                case rel => exact ⟨((rd_T46 t417 x11_3).f1), (x10_3), (wrap64 (x11_3 + 1)), (by first | rfl | (simp; done) | (simp [*]; done)), (by first | rfl | (simp; done) | (simp [*]; done)), (by first | rfl | (simp; done) | (simp [*]; done)), H', ⟨by have := HK1.out; have := HK2.out; have := HK3.out; omega⟩, ⟨ra HO_0⟩, ⟨ra HO_3⟩, ⟨ba HB⟩⟩
              ·rw [if_neg c46] at H
               have c46b0 : ((((rd_T46 t417 x11_3).f0.f0).toList) == (((rd_T49 t414 x8_2).f0.f0).toList) && ((((rd_T46 t417 x11_3).f0.f1).toList) == (((rd_T49 t414 x8_2).f0.f1).toList))) = false := by simpa using c46
               (try (have c46b1 : decide ((((rd_T46 t417 x11_3).f0.f0).toList) = (((rd_T49 t414 x8_2).f0.f0).toList) && ((((rd_T46 t417 x11_3).f0.f1).toList) == (((rd_T49 t414 x8_2).f0.f1).toList))) = false := by simpa using c46))
               (try (have c46b2 : ((((rd_T46 t417 x11_3).f0.f0).toList) == (((rd_T49 t414 x8_2).f0.f0).toList) && ((((rd_T46 t417 x11_3).f0.f1).toList) == (((rd_T49 t414 x8_2).f0.f1).toList))) = false := by simpa using c46))
               (try (have c46b3 : ¬ ((((rd_T46 t417 x11_3).f0.f0).toList) = (((rd_T49 t414 x8_2).f0.f0).toList) && ((((rd_T46 t417 x11_3).f0.f1).toList) == (((rd_T49 t414 x8_2).f0.f1).toList))) := by simpa using c46))
               clear c46
               by_cases c52 : ((((rd_T46 t417 x11_3).f0.f0).toList) == (((rd_T49 t414 x8_2).f1.f0).toList) && ((((rd_T46 t417 x11_3).f0.f1).toList) == (((rd_T49 t414 x8_2).f1.f1).toList))) = true
               ·rw [if_pos c52] at H
                have c52b0 : ((((rd_T46 t417 x11_3).f0.f0).toList) == (((rd_T49 t414 x8_2).f1.f0).toList) && ((((rd_T46 t417 x11_3).f0.f1).toList) == (((rd_T49 t414 x8_2).f1.f1).toList))) = true := c52
                (try (have c52b1 : decide ((((rd_T46 t417 x11_3).f0.f0).toList) = (((rd_T49 t414 x8_2).f1.f0).toList) && ((((rd_T46 t417 x11_3).f0.f1).toList) == (((rd_T49 t414 x8_2).f1.f1).toList))) = true := by simpa using c52))
                (try (have c52b2 : ((((rd_T46 t417 x11_3).f0.f0).toList) == (((rd_T49 t414 x8_2).f1.f0).toList) && ((((rd_T46 t417 x11_3).f0.f1).toList) == (((rd_T49 t414 x8_2).f1.f1).toList))) = true := by simpa using c52))
                clear c52
                have H' := Aside0.mk H
                clear H
                try go_wp2
                have n0_ := Aside0.mk (Kd.R_drew HO_0.out)
                have n1_ := Aside0.mk (Kd.R_drew HO_3.out)
                have n2_ := Aside0.mk (below_drew1 HB.out)
                revert n0_ n1_ n2_
                clear HO_0 HO_3 HB
                intro HO_0 HO_3 HB
                have p433 : 0 ≤ (x11_3 : Int) := of_decide_eq_true (by first | (with_reducible assumption) | assumption)
                have q433 : x11_3 < (t417.length : Int) := of_decide_eq_true (by first | (with_reducible assumption) | assumption)
                obtain ⟨ad433, e433, hx433_0, hx433_1, hx433_2⟩ := at_T46 (Kd.R_reads' HO_3.out).2.2 x11_3 p433 q433
                cases e433
                replace p433 := eq_true p433
                replace q433 := eq_true q433
                have p434 : 0 ≤ (x8_2 : Int) := of_decide_eq_true (by first | (with_reducible assumption) | assumption)
                have q434 : x8_2 < (t414.length : Int) := of_decide_eq_true (by first | (with_reducible assumption) | assumption)
                obtain ⟨ad434, e434, hx434_0, hx434_1, hx434_2, hx434_3⟩ := at_T49 (Kd.R_reads' HO_0.out).2.2 x8_2 p434 q434
                cases e434
                replace p434 := eq_true p434
                replace q434 := eq_true q434
                refine start_ (n := 11) (S := fun w' => w'.cell? (ad433.add ((x11_3).toNat * 3)) = some (.string ((rd_T46 t417 x11_3).f0.f0)) ∧ w'.cell? ⟨(ad433.add ((x11_3).toNat * 3)).block, (ad433.add ((x11_3).toNat * 3)).off + 1, none⟩ = some (.string ((rd_T46 t417 x11_3).f0.f1)) ∧ w'.cell? ⟨(ad433.add ((x11_3).toNat * 3)).block, (ad433.add ((x11_3).toNat * 3)).off + 2, none⟩ = some (.int .i64 ((rd_T46 t417 x11_3).f1)) ∧ w'.cell? (ad434.add ((x8_2).toNat * 4)) = some (.string ((rd_T49 t414 x8_2).f0.f0)) ∧ w'.cell? ⟨(ad434.add ((x8_2).toNat * 4)).block, (ad434.add ((x8_2).toNat * 4)).off + 1, none⟩ = some (.string ((rd_T49 t414 x8_2).f0.f1)) ∧ w'.cell? ⟨(ad434.add ((x8_2).toNat * 4)).block, (ad434.add ((x8_2).toNat * 4)).off + 2, none⟩ = some (.string ((rd_T49 t414 x8_2).f1.f0)) ∧ w'.cell? ⟨(ad434.add ((x8_2).toNat * 4)).block, (ad434.add ((x8_2).toNat * 4)).off + 3, none⟩ = some (.string ((rd_T49 t414 x8_2).f1.f1))) (ds := []) #[false, false, false, false, false, false, false, false, false, false, false] (by kernel_rfl) rfl rfl ⟨hx433_0, hx433_1, hx433_2, hx434_0, hx434_1, hx434_2, hx434_3⟩ (fun hHeld => ?_); refine with_tabW w19_WhyDepths.tab18 w19_WhyDepths.bits18 (fun HT_ HW_ => ?_)
                generalize wr.drew = w53 at HO_0 HO_3 HB hx433_0 hx433_1 hx433_2 hx434_0 hx434_1 hx434_2 hx434_3 hHeld ⊢
                refine pu 0 86 ?_
                refine pu 1 87 ?_
                refine pu 2 88 ?_
                refine pu 3 89 ?_
                refine pu 5 91 ?_
                refine pu 6 92 ?_
                refine pu 7 93 ?_
                refine pu 8 94 ?_
                refine tk 4 90 ?_
                refine tk 9 95 ?_
                refine pu 10 96 ?_
                refine dq ?_
                try go_wp2
                have n0_ := Aside0.mk (Kd.R_drew HO_0.out)
                have n1_ := Aside0.mk (Kd.R_drew HO_3.out)
                have n2_ := Aside0.mk (below_drew1 HB.out)
                revert n0_ n1_ n2_
                clear HO_0 HO_3 HB
                intro HO_0 HO_3 HB
                have p439 : 0 ≤ (x11_3 : Int) := of_decide_eq_true (by first | (with_reducible assumption) | assumption)
                have q439 : x11_3 < (t417.length : Int) := of_decide_eq_true (by first | (with_reducible assumption) | assumption)
                obtain ⟨ad439, e439, hx439_0, hx439_1, hx439_2⟩ := at_T46 (Kd.R_reads' HO_3.out).2.2 x11_3 p439 q439
                obtain rfl : ad433 = ad439 := (by injection e439)
                replace p439 := eq_true p439
                replace q439 := eq_true q439
                have p440 : 0 ≤ (x8_2 : Int) := of_decide_eq_true (by first | (with_reducible assumption) | assumption)
                have q440 : x8_2 < (t414.length : Int) := of_decide_eq_true (by first | (with_reducible assumption) | assumption)
                obtain ⟨ad440, e440, hx440_0, hx440_1, hx440_2, hx440_3⟩ := at_T49 (Kd.R_reads' HO_0.out).2.2 x8_2 p440 q440
                obtain rfl : ad434 = ad440 := (by injection e440)
                replace p440 := eq_true p440
                replace q440 := eq_true q440
                refine start_ (n := 11) (S := fun w' => w'.cell? (ad433.add ((x11_3).toNat * 3)) = some (.string ((rd_T46 t417 x11_3).f0.f0)) ∧ w'.cell? ⟨(ad433.add ((x11_3).toNat * 3)).block, (ad433.add ((x11_3).toNat * 3)).off + 1, none⟩ = some (.string ((rd_T46 t417 x11_3).f0.f1)) ∧ w'.cell? ⟨(ad433.add ((x11_3).toNat * 3)).block, (ad433.add ((x11_3).toNat * 3)).off + 2, none⟩ = some (.int .i64 ((rd_T46 t417 x11_3).f1)) ∧ w'.cell? (ad434.add ((x8_2).toNat * 4)) = some (.string ((rd_T49 t414 x8_2).f0.f0)) ∧ w'.cell? ⟨(ad434.add ((x8_2).toNat * 4)).block, (ad434.add ((x8_2).toNat * 4)).off + 1, none⟩ = some (.string ((rd_T49 t414 x8_2).f0.f1)) ∧ w'.cell? ⟨(ad434.add ((x8_2).toNat * 4)).block, (ad434.add ((x8_2).toNat * 4)).off + 2, none⟩ = some (.string ((rd_T49 t414 x8_2).f1.f0)) ∧ w'.cell? ⟨(ad434.add ((x8_2).toNat * 4)).block, (ad434.add ((x8_2).toNat * 4)).off + 3, none⟩ = some (.string ((rd_T49 t414 x8_2).f1.f1))) (ds := []) #[false, false, false, false, false, false, false, false, false, false, false] (by kernel_rfl) rfl rfl ⟨hx439_0, hx439_1, hx439_2, hx440_0, hx440_1, hx440_2, hx440_3⟩ (fun hHeld => ?_); refine with_tabW w19_WhyDepths.tab20 w19_WhyDepths.bits20 (fun HT_ HW_ => ?_)
                generalize w53.drew = w54 at HO_0 HO_3 HB hx439_0 hx439_1 hx439_2 hx440_0 hx440_1 hx440_2 hx440_3 hHeld ⊢
                refine pu 0 102 ?_
                refine pu 1 103 ?_
                refine pu 2 104 ?_
                refine pu 3 105 ?_
                refine pu 5 107 ?_
                refine pu 6 108 ?_
                refine pu 7 109 ?_
                refine pu 8 110 ?_
                refine tk 4 106 ?_
                refine tk 9 111 ?_
                refine pu 10 112 ?_
                refine dq ?_
                have p441 : 0 ≤ (x11_3 : Int) := of_decide_eq_true (by first | (with_reducible assumption) | assumption)
                have q441 : x11_3 < (t417.length : Int) := of_decide_eq_true (by first | (with_reducible assumption) | assumption)
                obtain ⟨ad441, e441, hx441_0, hx441_1, hx441_2⟩ := at_T46 (Kd.R_reads' HO_3.out).2.2 x11_3 p441 q441
                obtain rfl : ad433 = ad441 := (by injection e441)
                replace p441 := eq_true p441
                replace q441 := eq_true q441
                try go_wp2
                go_roundg k3
                case measure => have := HK1.out; have := HK2.out; have := HK3.out; omega
                case rel => exact ⟨(x9_3), ((rd_T46 t417 x11_3).f1), (wrap64 (x11_3 + 1)), (by first | rfl | (simp; done) | (simp [*]; done)), (by first | rfl | (simp; done) | (simp [*]; done)), (by first | rfl | (simp; done) | (simp [*]; done)), H', ⟨by have := HK1.out; have := HK2.out; have := HK3.out; omega⟩, ⟨ra HO_0⟩, ⟨ra HO_3⟩, ⟨ba HB⟩⟩
               ·rw [if_neg c52] at H
                have c52b0 : ((((rd_T46 t417 x11_3).f0.f0).toList) == (((rd_T49 t414 x8_2).f1.f0).toList) && ((((rd_T46 t417 x11_3).f0.f1).toList) == (((rd_T49 t414 x8_2).f1.f1).toList))) = false := by simpa using c52
                (try (have c52b1 : decide ((((rd_T46 t417 x11_3).f0.f0).toList) = (((rd_T49 t414 x8_2).f1.f0).toList) && ((((rd_T46 t417 x11_3).f0.f1).toList) == (((rd_T49 t414 x8_2).f1.f1).toList))) = false := by simpa using c52))
                (try (have c52b2 : ((((rd_T46 t417 x11_3).f0.f0).toList) == (((rd_T49 t414 x8_2).f1.f0).toList) && ((((rd_T46 t417 x11_3).f0.f1).toList) == (((rd_T49 t414 x8_2).f1.f1).toList))) = false := by simpa using c52))
                (try (have c52b3 : ¬ ((((rd_T46 t417 x11_3).f0.f0).toList) = (((rd_T49 t414 x8_2).f1.f0).toList) && ((((rd_T46 t417 x11_3).f0.f1).toList) == (((rd_T49 t414 x8_2).f1.f1).toList))) := by simpa using c52))
                clear c52
                have H' := Aside0.mk H
                clear H
                try go_wp2
                have n0_ := Aside0.mk (Kd.R_drew HO_0.out)
                have n1_ := Aside0.mk (Kd.R_drew HO_3.out)
                have n2_ := Aside0.mk (below_drew1 HB.out)
                revert n0_ n1_ n2_
                clear HO_0 HO_3 HB
                intro HO_0 HO_3 HB
                have p433 : 0 ≤ (x11_3 : Int) := of_decide_eq_true (by first | (with_reducible assumption) | assumption)
                have q433 : x11_3 < (t417.length : Int) := of_decide_eq_true (by first | (with_reducible assumption) | assumption)
                obtain ⟨ad433, e433, hx433_0, hx433_1, hx433_2⟩ := at_T46 (Kd.R_reads' HO_3.out).2.2 x11_3 p433 q433
                cases e433
                replace p433 := eq_true p433
                replace q433 := eq_true q433
                have p434 : 0 ≤ (x8_2 : Int) := of_decide_eq_true (by first | (with_reducible assumption) | assumption)
                have q434 : x8_2 < (t414.length : Int) := of_decide_eq_true (by first | (with_reducible assumption) | assumption)
                obtain ⟨ad434, e434, hx434_0, hx434_1, hx434_2, hx434_3⟩ := at_T49 (Kd.R_reads' HO_0.out).2.2 x8_2 p434 q434
                cases e434
                replace p434 := eq_true p434
                replace q434 := eq_true q434
                refine start_ (n := 11) (S := fun w' => w'.cell? (ad433.add ((x11_3).toNat * 3)) = some (.string ((rd_T46 t417 x11_3).f0.f0)) ∧ w'.cell? ⟨(ad433.add ((x11_3).toNat * 3)).block, (ad433.add ((x11_3).toNat * 3)).off + 1, none⟩ = some (.string ((rd_T46 t417 x11_3).f0.f1)) ∧ w'.cell? ⟨(ad433.add ((x11_3).toNat * 3)).block, (ad433.add ((x11_3).toNat * 3)).off + 2, none⟩ = some (.int .i64 ((rd_T46 t417 x11_3).f1)) ∧ w'.cell? (ad434.add ((x8_2).toNat * 4)) = some (.string ((rd_T49 t414 x8_2).f0.f0)) ∧ w'.cell? ⟨(ad434.add ((x8_2).toNat * 4)).block, (ad434.add ((x8_2).toNat * 4)).off + 1, none⟩ = some (.string ((rd_T49 t414 x8_2).f0.f1)) ∧ w'.cell? ⟨(ad434.add ((x8_2).toNat * 4)).block, (ad434.add ((x8_2).toNat * 4)).off + 2, none⟩ = some (.string ((rd_T49 t414 x8_2).f1.f0)) ∧ w'.cell? ⟨(ad434.add ((x8_2).toNat * 4)).block, (ad434.add ((x8_2).toNat * 4)).off + 3, none⟩ = some (.string ((rd_T49 t414 x8_2).f1.f1))) (ds := []) #[false, false, false, false, false, false, false, false, false, false, false] (by kernel_rfl) rfl rfl ⟨hx433_0, hx433_1, hx433_2, hx434_0, hx434_1, hx434_2, hx434_3⟩ (fun hHeld => ?_); refine with_tabW w19_WhyDepths.tab18 w19_WhyDepths.bits18 (fun HT_ HW_ => ?_)
                generalize wr.drew = w55 at HO_0 HO_3 HB hx433_0 hx433_1 hx433_2 hx434_0 hx434_1 hx434_2 hx434_3 hHeld ⊢
                refine pu 0 86 ?_
                refine pu 1 87 ?_
                refine pu 2 88 ?_
                refine pu 3 89 ?_
                refine pu 5 91 ?_
                refine pu 6 92 ?_
                refine pu 7 93 ?_
                refine pu 8 94 ?_
                refine tk 4 90 ?_
                refine tk 9 95 ?_
                refine pu 10 96 ?_
                refine dq ?_
                try go_wp2
                have n0_ := Aside0.mk (Kd.R_drew HO_0.out)
                have n1_ := Aside0.mk (Kd.R_drew HO_3.out)
                have n2_ := Aside0.mk (below_drew1 HB.out)
                revert n0_ n1_ n2_
                clear HO_0 HO_3 HB
                intro HO_0 HO_3 HB
                have p439 : 0 ≤ (x11_3 : Int) := of_decide_eq_true (by first | (with_reducible assumption) | assumption)
                have q439 : x11_3 < (t417.length : Int) := of_decide_eq_true (by first | (with_reducible assumption) | assumption)
                obtain ⟨ad439, e439, hx439_0, hx439_1, hx439_2⟩ := at_T46 (Kd.R_reads' HO_3.out).2.2 x11_3 p439 q439
                obtain rfl : ad433 = ad439 := (by injection e439)
                replace p439 := eq_true p439
                replace q439 := eq_true q439
                have p440 : 0 ≤ (x8_2 : Int) := of_decide_eq_true (by first | (with_reducible assumption) | assumption)
                have q440 : x8_2 < (t414.length : Int) := of_decide_eq_true (by first | (with_reducible assumption) | assumption)
                obtain ⟨ad440, e440, hx440_0, hx440_1, hx440_2, hx440_3⟩ := at_T49 (Kd.R_reads' HO_0.out).2.2 x8_2 p440 q440
                obtain rfl : ad434 = ad440 := (by injection e440)
                replace p440 := eq_true p440
                replace q440 := eq_true q440
                refine start_ (n := 11) (S := fun w' => w'.cell? (ad433.add ((x11_3).toNat * 3)) = some (.string ((rd_T46 t417 x11_3).f0.f0)) ∧ w'.cell? ⟨(ad433.add ((x11_3).toNat * 3)).block, (ad433.add ((x11_3).toNat * 3)).off + 1, none⟩ = some (.string ((rd_T46 t417 x11_3).f0.f1)) ∧ w'.cell? ⟨(ad433.add ((x11_3).toNat * 3)).block, (ad433.add ((x11_3).toNat * 3)).off + 2, none⟩ = some (.int .i64 ((rd_T46 t417 x11_3).f1)) ∧ w'.cell? (ad434.add ((x8_2).toNat * 4)) = some (.string ((rd_T49 t414 x8_2).f0.f0)) ∧ w'.cell? ⟨(ad434.add ((x8_2).toNat * 4)).block, (ad434.add ((x8_2).toNat * 4)).off + 1, none⟩ = some (.string ((rd_T49 t414 x8_2).f0.f1)) ∧ w'.cell? ⟨(ad434.add ((x8_2).toNat * 4)).block, (ad434.add ((x8_2).toNat * 4)).off + 2, none⟩ = some (.string ((rd_T49 t414 x8_2).f1.f0)) ∧ w'.cell? ⟨(ad434.add ((x8_2).toNat * 4)).block, (ad434.add ((x8_2).toNat * 4)).off + 3, none⟩ = some (.string ((rd_T49 t414 x8_2).f1.f1))) (ds := []) #[false, false, false, false, false, false, false, false, false, false, false] (by kernel_rfl) rfl rfl ⟨hx439_0, hx439_1, hx439_2, hx440_0, hx440_1, hx440_2, hx440_3⟩ (fun hHeld => ?_); refine with_tabW w19_WhyDepths.tab20 w19_WhyDepths.bits20 (fun HT_ HW_ => ?_)
                generalize w55.drew = w56 at HO_0 HO_3 HB hx439_0 hx439_1 hx439_2 hx440_0 hx440_1 hx440_2 hx440_3 hHeld ⊢
                refine pu 0 102 ?_
                refine pu 1 103 ?_
                refine pu 2 104 ?_
                refine pu 3 105 ?_
                refine pu 5 107 ?_
                refine pu 6 108 ?_
                refine pu 7 109 ?_
                refine pu 8 110 ?_
                refine tk 4 106 ?_
                refine tk 9 111 ?_
                refine pu 10 112 ?_
                refine dq ?_
                try go_wp2
                go_roundg k3
                case measure => have := HK1.out; have := HK2.out; have := HK3.out; omega
                case rel => exact ⟨(x9_3), (x10_3), (wrap64 (x11_3 + 1)), (by first | rfl | (simp; done) | (simp [*]; done)), (by first | rfl | (simp; done) | (simp [*]; done)), (by first | rfl | (simp; done) | (simp [*]; done)), H', ⟨by have := HK1.out; have := HK2.out; have := HK3.out; omega⟩, ⟨ra HO_0⟩, ⟨ra HO_3⟩, ⟨ba HB⟩⟩
             ·rw [if_neg c45] at H
              exact absurd H (by simp)
            ·rw [if_neg c44] at H
             exact absurd H (by simp)
           ·rw [if_neg c43] at H
            exact absurd H (by simp)
          ·rw [if_neg c42] at H
           have c42b0 : decide (x11_3 < (t417.length : Int)) = false := decide_eq_false c42
           clear c42
           by_cases c57 : 0 ≤ x8_2
           ·rw [if_pos c57] at H
            have c57b0 : decide (0 ≤ x8_2) = true := decide_eq_true c57
            clear c57
            by_cases c58 : x8_2 < (t414.length : Int)
            ·rw [if_pos c58] at H
             have c58b0 : decide (x8_2 < (t414.length : Int)) = true := decide_eq_true c58
             clear c58
             by_cases c59 : ((((rd_T49 t414 x8_2).f0.f0).toList) == ([] : List UInt8) && ((((rd_T49 t414 x8_2).f0.f1).toList) == ([] : List UInt8))) = true
             ·rw [if_pos c59] at H
              have c59b0 : ((((rd_T49 t414 x8_2).f0.f0).toList) == ([] : List UInt8) && ((((rd_T49 t414 x8_2).f0.f1).toList) == ([] : List UInt8))) = true := c59
              (try (have c59b0i := c59b0; simp only [show ∀ l_ : List UInt8, (l_ == []) = l_.isEmpty from fun l_ => by cases l_ <;> rfl] at c59b0i))
              (try (have c59b1 : decide ((((rd_T49 t414 x8_2).f0.f0).toList) = ([] : List UInt8) && ((((rd_T49 t414 x8_2).f0.f1).toList) == ([] : List UInt8))) = true := by simpa using c59))
              (try (have c59b2 : ((((rd_T49 t414 x8_2).f0.f0).toList) == ([] : List UInt8) && ((((rd_T49 t414 x8_2).f0.f1).toList) == ([] : List UInt8))) = true := by simpa using c59))
              clear c59
              by_cases c60 : x10_3 = 1
              ·rw [if_pos c60] at H
               have c60b0 := beq_iff_eq.mpr c60
               have c60b1 := bne_eq_false_iff_eq.mpr c60
               clear c60
               by_cases c61 : x9_3 > 0
               ·rw [if_pos c61] at H
                have c61b0 : decide (0 < x9_3) = true := decide_eq_true c61
                clear c61
                by_cases c62 : x10_3 = 0
                ·rw [if_pos c62] at H
                 have c62b0 := beq_iff_eq.mpr c62
                 have c62b1 := bne_eq_false_iff_eq.mpr c62
                 clear c62
                 obtain rfl := Option.some.inj H
                 have p432 : 0 ≤ (x8_2 : Int) := of_decide_eq_true (by first | (with_reducible assumption) | assumption)
                 have q432 : x8_2 < (t414.length : Int) := of_decide_eq_true (by first | (with_reducible assumption) | assumption)
                 obtain ⟨ad432, e432, hx432_0, hx432_1, hx432_2, hx432_3⟩ := at_T49 (Kd.R_reads' HO_0.out).2.2 x8_2 p432 q432
                 cases e432
                 replace p432 := eq_true p432
                 replace q432 := eq_true q432
                 go_wp2
                 go_ret
                 exact ⟨by first | rfl | (simp [errW_none, errW_some] <;> rfl) | (simp [*, errW_none, errW_some] <;> rfl), ba HB⟩
                ·rw [if_neg c62] at H
                 have c62b0 := beq_eq_false_iff_ne.mpr c62
                 have c62b1 := bne_iff_ne.mpr c62
                 by_cases c63 : x10_3 > (wrap64 (x9_3 + 1))
                 ·rw [if_pos c63] at H
                  have c63b0 : decide ((wrap64 (x9_3 + 1)) < x10_3) = true := decide_eq_true c63
                  clear c63
                  obtain rfl := Option.some.inj H
                  have p432 : 0 ≤ (x8_2 : Int) := of_decide_eq_true (by first | (with_reducible assumption) | assumption)
                  have q432 : x8_2 < (t414.length : Int) := of_decide_eq_true (by first | (with_reducible assumption) | assumption)
                  obtain ⟨ad432, e432, hx432_0, hx432_1, hx432_2, hx432_3⟩ := at_T49 (Kd.R_reads' HO_0.out).2.2 x8_2 p432 q432
                  cases e432
                  replace p432 := eq_true p432
                  replace q432 := eq_true q432
                  go_wp2
                  go_ret
                  exact ⟨by first | rfl | (simp [errW_none, errW_some] <;> rfl) | (simp [*, errW_none, errW_some] <;> rfl), ba HB⟩
                 ·rw [if_neg c63] at H
                  have c63b0 : decide ((wrap64 (x9_3 + 1)) < x10_3) = false := decide_eq_false c63
                  clear c63
                  have H' := Aside0.mk H
                  clear H
                  have p432 : 0 ≤ (x8_2 : Int) := of_decide_eq_true (by first | (with_reducible assumption) | assumption)
                  have q432 : x8_2 < (t414.length : Int) := of_decide_eq_true (by first | (with_reducible assumption) | assumption)
                  obtain ⟨ad432, e432, hx432_0, hx432_1, hx432_2, hx432_3⟩ := at_T49 (Kd.R_reads' HO_0.out).2.2 x8_2 p432 q432
                  cases e432
                  replace p432 := eq_true p432
                  replace q432 := eq_true q432
                  go_wp2
                  go_roundg k3
                  case measure => have := HK1.out; have := HK2.out; have := HK3.out; omega
                  case rel => exact ⟨(wrap64 (x8_2 + 1)), (by first | rfl | (simp; done) | (simp [*]; done)), H', ⟨by have := HK1.out; have := HK2.out; have := HK3.out; omega⟩, ⟨ra HO_0⟩, ⟨ra HO_3⟩, ⟨ba HB⟩⟩
               ·rw [if_neg c61] at H
                have c61b0 : decide (0 < x9_3) = false := decide_eq_false c61
                clear c61
                have H' := Aside0.mk H
                clear H
                have p432 : 0 ≤ (x8_2 : Int) := of_decide_eq_true (by first | (with_reducible assumption) | assumption)
                have q432 : x8_2 < (t414.length : Int) := of_decide_eq_true (by first | (with_reducible assumption) | assumption)
                obtain ⟨ad432, e432, hx432_0, hx432_1, hx432_2, hx432_3⟩ := at_T49 (Kd.R_reads' HO_0.out).2.2 x8_2 p432 q432
                cases e432
                replace p432 := eq_true p432
                replace q432 := eq_true q432
                go_wp2
                go_roundg k3
                case measure => have := HK1.out; have := HK2.out; have := HK3.out; omega
                case rel => exact ⟨(wrap64 (x8_2 + 1)), (by first | rfl | (simp; done) | (simp [*]; done)), H', ⟨by have := HK1.out; have := HK2.out; have := HK3.out; omega⟩, ⟨ra HO_0⟩, ⟨ra HO_3⟩, ⟨ba HB⟩⟩
              ·rw [if_neg c60] at H
               have c60b0 := beq_eq_false_iff_ne.mpr c60
               have c60b1 := bne_iff_ne.mpr c60
               obtain rfl := Option.some.inj H
               have p432 : 0 ≤ (x8_2 : Int) := of_decide_eq_true (by first | (with_reducible assumption) | assumption)
               have q432 : x8_2 < (t414.length : Int) := of_decide_eq_true (by first | (with_reducible assumption) | assumption)
               obtain ⟨ad432, e432, hx432_0, hx432_1, hx432_2, hx432_3⟩ := at_T49 (Kd.R_reads' HO_0.out).2.2 x8_2 p432 q432
               cases e432
               replace p432 := eq_true p432
               replace q432 := eq_true q432
               go_wp2
               go_ret
               exact ⟨by first | rfl | (simp [errW_none, errW_some] <;> rfl) | (simp [*, errW_none, errW_some] <;> rfl), ba HB⟩
             ·rw [if_neg c59] at H
              have c59b0 : ((((rd_T49 t414 x8_2).f0.f0).toList) == ([] : List UInt8) && ((((rd_T49 t414 x8_2).f0.f1).toList) == ([] : List UInt8))) = false := by simpa using c59
              (try (have c59b0i := c59b0; simp only [show ∀ l_ : List UInt8, (l_ == []) = l_.isEmpty from fun l_ => by cases l_ <;> rfl] at c59b0i))
              (try (have c59b1 : decide ((((rd_T49 t414 x8_2).f0.f0).toList) = ([] : List UInt8) && ((((rd_T49 t414 x8_2).f0.f1).toList) == ([] : List UInt8))) = false := by simpa using c59))
              (try (have c59b2 : ((((rd_T49 t414 x8_2).f0.f0).toList) == ([] : List UInt8) && ((((rd_T49 t414 x8_2).f0.f1).toList) == ([] : List UInt8))) = false := by simpa using c59))
              (try (have c59b3 : ¬ ((((rd_T49 t414 x8_2).f0.f0).toList) = ([] : List UInt8) && ((((rd_T49 t414 x8_2).f0.f1).toList) == ([] : List UInt8))) := by simpa using c59))
              clear c59
              by_cases c64 : x9_3 > 0
              ·rw [if_pos c64] at H
               have c64b0 : decide (0 < x9_3) = true := decide_eq_true c64
               clear c64
               by_cases c65 : x10_3 = 0
               ·rw [if_pos c65] at H
                have c65b0 := beq_iff_eq.mpr c65
                have c65b1 := bne_eq_false_iff_eq.mpr c65
                clear c65
                obtain rfl := Option.some.inj H
                have p432 : 0 ≤ (x8_2 : Int) := of_decide_eq_true (by first | (with_reducible assumption) | assumption)
                have q432 : x8_2 < (t414.length : Int) := of_decide_eq_true (by first | (with_reducible assumption) | assumption)
                obtain ⟨ad432, e432, hx432_0, hx432_1, hx432_2, hx432_3⟩ := at_T49 (Kd.R_reads' HO_0.out).2.2 x8_2 p432 q432
                cases e432
                replace p432 := eq_true p432
                replace q432 := eq_true q432
                go_wp2
                go_ret
                exact ⟨by first | rfl | (simp [errW_none, errW_some] <;> rfl) | (simp [*, errW_none, errW_some] <;> rfl), ba HB⟩
               ·rw [if_neg c65] at H
                have c65b0 := beq_eq_false_iff_ne.mpr c65
                have c65b1 := bne_iff_ne.mpr c65
                by_cases c66 : x10_3 > (wrap64 (x9_3 + 1))
                ·rw [if_pos c66] at H
                 have c66b0 : decide ((wrap64 (x9_3 + 1)) < x10_3) = true := decide_eq_true c66
                 clear c66
                 obtain rfl := Option.some.inj H
                 have p432 : 0 ≤ (x8_2 : Int) := of_decide_eq_true (by first | (with_reducible assumption) | assumption)
                 have q432 : x8_2 < (t414.length : Int) := of_decide_eq_true (by first | (with_reducible assumption) | assumption)
                 obtain ⟨ad432, e432, hx432_0, hx432_1, hx432_2, hx432_3⟩ := at_T49 (Kd.R_reads' HO_0.out).2.2 x8_2 p432 q432
                 cases e432
                 replace p432 := eq_true p432
                 replace q432 := eq_true q432
                 go_wp2
                 go_ret
                 exact ⟨by first | rfl | (simp [errW_none, errW_some] <;> rfl) | (simp [*, errW_none, errW_some] <;> rfl), ba HB⟩
                ·rw [if_neg c66] at H
                 have c66b0 : decide ((wrap64 (x9_3 + 1)) < x10_3) = false := decide_eq_false c66
                 clear c66
                 have H' := Aside0.mk H
                 clear H
                 have p432 : 0 ≤ (x8_2 : Int) := of_decide_eq_true (by first | (with_reducible assumption) | assumption)
                 have q432 : x8_2 < (t414.length : Int) := of_decide_eq_true (by first | (with_reducible assumption) | assumption)
                 obtain ⟨ad432, e432, hx432_0, hx432_1, hx432_2, hx432_3⟩ := at_T49 (Kd.R_reads' HO_0.out).2.2 x8_2 p432 q432
                 cases e432
                 replace p432 := eq_true p432
                 replace q432 := eq_true q432
                 go_wp2
                 go_roundg k3
                 case measure => have := HK1.out; have := HK2.out; have := HK3.out; omega
                 case rel => exact ⟨(wrap64 (x8_2 + 1)), (by first | rfl | (simp; done) | (simp [*]; done)), H', ⟨by have := HK1.out; have := HK2.out; have := HK3.out; omega⟩, ⟨ra HO_0⟩, ⟨ra HO_3⟩, ⟨ba HB⟩⟩
              ·rw [if_neg c64] at H
               have c64b0 : decide (0 < x9_3) = false := decide_eq_false c64
               clear c64
               have H' := Aside0.mk H
               clear H
               have p432 : 0 ≤ (x8_2 : Int) := of_decide_eq_true (by first | (with_reducible assumption) | assumption)
               have q432 : x8_2 < (t414.length : Int) := of_decide_eq_true (by first | (with_reducible assumption) | assumption)
               obtain ⟨ad432, e432, hx432_0, hx432_1, hx432_2, hx432_3⟩ := at_T49 (Kd.R_reads' HO_0.out).2.2 x8_2 p432 q432
               cases e432
               replace p432 := eq_true p432
               replace q432 := eq_true q432
               go_wp2
               go_roundg k3
               case measure => have := HK1.out; have := HK2.out; have := HK3.out; omega
               case rel => exact ⟨(wrap64 (x8_2 + 1)), (by first | rfl | (simp; done) | (simp [*]; done)), H', ⟨by have := HK1.out; have := HK2.out; have := HK3.out; omega⟩, ⟨ra HO_0⟩, ⟨ra HO_3⟩, ⟨ba HB⟩⟩
            ·rw [if_neg c58] at H
             exact absurd H (by simp)
           ·rw [if_neg c57] at H
            exact absurd H (by simp)
       ·rw [if_neg c41] at H
        have c41b0 : decide (x8_2 < (t414.length : Int)) = false := decide_eq_false c41
        clear c41
        obtain ⟨t431, A67, H⟩ := bo H
        obtain rfl := Option.some.inj H
        go_wp2_with (first | ((with_reducible refine gate_callee (f := 20) rfl ?_); refine gl 143 Tryz.func20 #[] ?_; (with_reducible refine (w19_awake.calls  t431 _ A67.out).mono ?_); rintro e w68 ⟨rfl, hb⟩; refine ⟨_, rfl, ?_⟩; have n0_ := rb HO_0 hb; have n1_ := rb HO_3 hb; have n2_ := bs HB hb; revert n0_ n1_ n2_; clear HO_0 HO_3 HB; intro HO_0 HO_3 HB; (try clear hb)))
        go_ret
        exact ⟨by first | rfl | (simp [errW_none, errW_some] <;> rfl) | (simp [*, errW_none, errW_some] <;> rfl), ba HB⟩
 ·rw [if_neg c4] at H
  have c4b0 := beq_eq_false_iff_ne.mpr c4
  have c4b1 := bne_iff_ne.mpr c4
  by_cases c69 : (t417.length : Int) = 0
  ·rw [if_pos c69] at H
   have c69b0 := beq_iff_eq.mpr c69
   have c69b1 := bne_eq_false_iff_eq.mpr c69
   clear c69
   obtain ⟨t421, A70, H⟩ := bo H
   obtain rfl := Option.some.inj H
   go_enter Tryz.func4, Tryz.ntmps4
   go_wp2_with (first | ((with_reducible refine gate_callee (f := 15) rfl ?_); refine gl 13 Tryz.func15 #[.slice A0 l0.length c0] ?_; (with_reducible refine (w18_Few.calls k _ _ l0 t414 _ ?side1 ?side2 A2.out).mono ?_); (case side1 => repeat (first | exact HR0.out | (with_reducible refine Kd.C_alloc ?_ _) | (with_reducible refine Kd.C_drewN ?_ _) | (with_reducible refine Kd.C_drew ?_))); (case side2 => exact HC0.out); rintro e w71 ⟨v415, rfl, ho0, hb⟩; refine ⟨_, rfl, ?_⟩; have n0_ := Aside0.mk (Kd.R_lower ho0 (bz HB)); have n1_ := bs HB hb; revert n0_ n1_; clear HB; intro HO416 HB; (try clear hb); (try clear ho0); obtain ⟨Ao72, co72, eo72⟩ := Kd.R_slice HO416.out; subst eo72) | ((with_reducible refine gate_callee (f := 17) rfl ?_); refine gl 16 Tryz.func17 #[.slice Ao72 t414.length co72] ?_; (with_reducible refine (why_Depths.calls _ _ t414 t417 t418 _ ?side1 ?side2 A3.out).mono ?_); (case side1 => repeat (first | exact (Kd.R_reads' HO416.out).2.2 | (with_reducible refine Kd.C_alloc ?_ _) | (with_reducible refine Kd.C_drewN ?_ _) | (with_reducible refine Kd.C_drew ?_))); (case side2 => exact (Kd.R_reads' HO416.out).2.1); rintro e w73 ⟨v419, rfl, ho0, hb⟩; refine ⟨_, rfl, ?_⟩; have n0_ := rb HO416 hb; have n1_ := Aside0.mk (Kd.R_lower ho0 (bz HB)); have n2_ := bs HB hb; revert n0_ n1_ n2_; clear HO416 HB; intro HO416 HO420 HB; (try clear hb); (try clear ho0); obtain ⟨Ao74, co74, eo74⟩ := Kd.R_slice HO420.out; subst eo74) | (go_at_call 20; (with_reducible refine (w19_awake.calls  t421 _ A70.out).mono ?_); rintro e w75 ⟨rfl, hb⟩; have n0_ := rb HO416 hb; have n1_ := rb HO420 hb; have n2_ := bs HB hb; revert n0_ n1_ n2_; clear HO416 HO420 HB; intro HO416 HO420 HB; (try clear hb)))
   go_ret
   exact ⟨by first | rfl | (simp [errW_none, errW_some] <;> rfl) | (simp [*, errW_none, errW_some] <;> rfl), ba HB⟩
  ·rw [if_neg c69] at H
   have c69b0 := beq_eq_false_iff_ne.mpr c69
   have c69b1 := bne_iff_ne.mpr c69
   have c69b2 : ¬ (t417 = []) := fun h_ => c69 (by rw [h_]; rfl)
   obtain rfl := Option.some.inj H
   go_enter Tryz.func4, Tryz.ntmps4
   go_wp2_with (first | ((with_reducible refine gate_callee (f := 15) rfl ?_); refine gl 13 Tryz.func15 #[.slice A0 l0.length c0] ?_; (with_reducible refine (w18_Few.calls k _ _ l0 t414 _ ?side1 ?side2 A2.out).mono ?_); (case side1 => repeat (first | exact HR0.out | (with_reducible refine Kd.C_alloc ?_ _) | (with_reducible refine Kd.C_drewN ?_ _) | (with_reducible refine Kd.C_drew ?_))); (case side2 => exact HC0.out); rintro e w76 ⟨v415, rfl, ho0, hb⟩; refine ⟨_, rfl, ?_⟩; have n0_ := Aside0.mk (Kd.R_lower ho0 (bz HB)); have n1_ := bs HB hb; revert n0_ n1_; clear HB; intro HO416 HB; (try clear hb); (try clear ho0); obtain ⟨Ao77, co77, eo77⟩ := Kd.R_slice HO416.out; subst eo77) | ((with_reducible refine gate_callee (f := 17) rfl ?_); refine gl 16 Tryz.func17 #[.slice Ao77 t414.length co77] ?_; (with_reducible refine (why_Depths.calls _ _ t414 t417 t418 _ ?side1 ?side2 A3.out).mono ?_); (case side1 => repeat (first | exact (Kd.R_reads' HO416.out).2.2 | (with_reducible refine Kd.C_alloc ?_ _) | (with_reducible refine Kd.C_drewN ?_ _) | (with_reducible refine Kd.C_drew ?_))); (case side2 => exact (Kd.R_reads' HO416.out).2.1); rintro e w78 ⟨v419, rfl, ho0, hb⟩; refine ⟨_, rfl, ?_⟩; have n0_ := rb HO416 hb; have n1_ := Aside0.mk (Kd.R_lower ho0 (bz HB)); have n2_ := bs HB hb; revert n0_ n1_ n2_; clear HO416 HB; intro HO416 HO420 HB; (try clear hb); (try clear ho0); obtain ⟨Ao79, co79, eo79⟩ := Kd.R_slice HO420.out; subst eo79))
   go_ret
   exact ⟨by first | rfl | (simp [errW_none, errW_some] <;> rfl) | (simp [*, errW_none, errW_some] <;> rfl), ba HB⟩
end Go.Proofs.YtjfcmkddeglghaaGreatDoor.G
end
section
namespace Go.Proofs.YtjfcmkddeglghaaGreatDoor.G
open Go.RowKit Go.Proofs.YtjfcmkddeglghaaGreatDoorW.PrintWords Go.Proofs.YtjfcmkddeglghaaGreatDoorW.PrintLast Go.Proofs.YtjfcmkddeglghaaGreatDoorW.PrintMore
attribute [local go_sem] max2_int min2_int max_two min_two max_three min_three max_four min_four
set_option linter.unusedVariables false
set_option linter.unusedSimpArgs false
def r19_Depth.l0 : Nat → List (List (S24)) → Int → ByteArray → ByteArray → Option (Int)
 | 0, _, _, _, _ => none
 | k + 1, x0, x5, x285000, x285001 => if x5 < (x0.length : Int) then (if 0 ≤ x5 then ((r05_Has.f k (rd_L11 x0 x5) x285000 x285001).bind fun t286 => (if t286 = true then (some (wrap64 (x5 + 1))) else (r19_Depth.l0 k x0 (wrap64 (x5 + 1)) x285000 x285001))) else (none)) else (some 0)
def r19_Depth.f (k : Nat) (l0 : List (List (S24))) (a1_0 : ByteArray) (a1_1 : ByteArray) : Option (Int) := r19_Depth.l0 k l0 0 a1_0 a1_1
end Go.Proofs.YtjfcmkddeglghaaGreatDoor.G
end
section
namespace Go.Proofs.YtjfcmkddeglghaaGreatDoor.G
open Go.RowKit Gw Go.Proofs.YtjfcmkddeglghaaGreatDoorW.PrintWords Go.Proofs.YtjfcmkddeglghaaGreatDoorW.PrintLast Go.Proofs.YtjfcmkddeglghaaGreatDoorW.PrintMore
set_option linter.unusedVariables false
set_option linter.unusedSimpArgs false
structure LSt (w : World) (out : List (List SNode)) (v3 : Value) (met : List SNode) (v4 : Value) (near : List SNode) (v5 : Value) (wx : World) : Prop where
  o : Kd.S (Kd.slice 24 k24) 31 wx w.heap.size (fun k => True ∧ some k ≠ v4.ownBlock) v3 out
  m : Kd.R k24 24 wx w.heap.size (fun _ => True) v4 met
  a : Kd.R k24 24 wx w.heap.size (fun k => True ∧ some k ≠ v4.ownBlock) v5 near
  b : Below w.heap.size w wx
structure LMid (w : World) (out : List (List SNode)) (v3 : Value) (met : List SNode) (v4 : Value) (next : List SNode) (v6 : Value) (wx : World) : Prop where
  o : Kd.S (Kd.slice 24 k24) 31 wx w.heap.size (fun k => (True ∧ some k ≠ v6.ownBlock) ∧ some k ≠ v4.ownBlock) v3 out
  m : Kd.R k24 24 wx w.heap.size (fun _ => True) v4 met
  x : Kd.R k24 24 wx w.heap.size (fun k => True ∧ some k ≠ v4.ownBlock) v6 next
  b : Below w.heap.size w wx
section
variable {w wx w1 : World} {out : List (List SNode)} {met near next : List SNode} {v3 v4 v5 v6 v1 : Value} {p : SNode}
theorem LSt.calm (h : LSt w out v3 met v4 near v5 wx) (hb : Below wx.heap.size wx w1) : LSt w out v3 met v4 near v5 w1 :=
  ⟨Kd.S_below h.o hb, Kd.R_below h.m hb, Kd.R_below h.a hb, below_then h.b h.b.size hb⟩
theorem LMid.app (h : LMid w out v3 met v4 next v6 wx) (ho : Kd.R k24 24 w1 w.heap.size (fun _ => True) v1 (met ++ [p])) (hb : Below w.heap.size w w1) (hg : wx.grownBy w1 v4.ownBlock)
    (hat : v1.ownBlock = v4.ownBlock ∨ ∃ b, v1.ownBlock = some b ∧ wx.heap.size ≤ b) : LMid w out v3 (met ++ [p]) v1 next v6 w1 :=
  ⟨Kd.S_after h.o hg hat, ho, Kd.R_after h.x hg hat, hb⟩
theorem LMid.fin (h : LMid w out v3 met v4 next v6 wx) : LSt w out v3 met v4 next v6 wx := ⟨Kd.S_mono h.o (fun k hk => ⟨trivial, hk.2⟩), h.m, h.x, h.b⟩
theorem LMid.put (h : LMid w out v3 met v4 next v6 wx) (ho : Kd.S (Kd.slice 24 k24) 31 w1 w.heap.size (fun k => True ∧ some k ≠ v4.ownBlock) v1 (out ++ [next])) (hb : Below w.heap.size w w1) (hg : wx.grownBy w1 v3.ownBlock) :
    LSt w (out ++ [next]) v1 met v4 next v6 w1 := by
  have h3 : ∀ k, v3.ownBlock = some k → (True ∧ some k ≠ v6.ownBlock) ∧ some k ≠ v4.ownBlock := fun k hk => (Kd.S_R h.o).1 k hk
  refine ⟨ho, Kd.R_mono (Kd.R_grown (Kd.R_tight rfl h.m) hg (fun k hk e => ?_)) (fun _ _ => trivial), Kd.R_mono (Kd.R_grown (Kd.R_tight2 rfl h.x) hg (fun k hk e => ?_)) (fun k hk => hk.2), hb⟩
  · exact (h3 k e.symm).2 hk
  · exact (h3 k e.symm).1.2 hk.1
end
end Go.Proofs.YtjfcmkddeglghaaGreatDoor.G
end
section
namespace Go.Proofs.YtjfcmkddeglghaaGreatDoor.G
open Go.RowKit Go.Proofs.YtjfcmkddeglghaaGreatDoorW.PrintWords Go.Proofs.YtjfcmkddeglghaaGreatDoorW.PrintLast Go.Proofs.YtjfcmkddeglghaaGreatDoorW.PrintMore
attribute [local go_sem] max2_int min2_int max_two min_two max_three min_three max_four min_four
set_option linter.unusedVariables false
set_option linter.unusedSimpArgs false
attribute [local go_sem high] eqA24
def r19_Has.l0 : Nat → List (S49) → Int → ByteArray → ByteArray → ByteArray → ByteArray → Option (Bool)
 | 0, _, _, _, _, _, _ => none
 | k + 1, x0, x7, x361000, x361001, x362000, x362001 => if x7 < (x0.length : Int) then (if 0 ≤ x7 then (if ((((rd_T49 x0 x7).f0.f0).toList) == x361000.toList && ((((rd_T49 x0 x7).f0.f1).toList) == x361001.toList)) = true then (if ((((rd_T49 x0 x7).f1.f0).toList) == x362000.toList && ((((rd_T49 x0 x7).f1.f1).toList) == x362001.toList)) = true then (some true) else (r19_Has.l0 k x0 (wrap64 (x7 + 1)) x361000 x361001 x362000 x362001)) else (r19_Has.l0 k x0 (wrap64 (x7 + 1)) x361000 x361001 x362000 x362001)) else (none)) else (some false)
def r19_Has.f (k : Nat) (l0 : List (S49)) (a1_0 : ByteArray) (a1_1 : ByteArray) (a2_0 : ByteArray) (a2_1 : ByteArray) : Option (Bool) := r19_Has.l0 k l0 0 a1_0 a1_1 a2_0 a2_1
end Go.Proofs.YtjfcmkddeglghaaGreatDoor.G
end
section
namespace Go.Proofs.YtjfcmkddeglghaaGreatDoor.G
open Go.RowKit Go.Proofs.YtjfcmkddeglghaaGreatDoorW.PrintWords Go.Proofs.YtjfcmkddeglghaaGreatDoorW.PrintLast Go.Proofs.YtjfcmkddeglghaaGreatDoorW.PrintMore
attribute [local go_sem] max2_int min2_int max_two min_two max_three min_three max_four min_four
set_option linter.unusedVariables false
set_option linter.unusedSimpArgs false
mutual
def r19_Chain.l0 : Nat → List (S49) → List (List (S24)) → List (S24) → Int → ByteArray → ByteArray → Option ((List (S24)))
 | 0, _, _, _, _, _, _ => none
 | k + 1, x0, x1, x8, x9, x365000, x365001 => if x9 < (x8.length : Int) then (if 0 ≤ x9 then ((r19_Has.f k x0 ((rd_T24 x8 x9).f0) ((rd_T24 x8 x9).f1) x365000 x365001).bind fun t371 => (if t371 = true then ((r19_Chain.f k x0 x1 ((rd_T24 x8 x9).f0) ((rd_T24 x8 x9).f1)).bind fun t373 => ((some (([(⟨x365000, x365001⟩ : S24)] : List (S24)) : List (S24))).bind fun y376 => (if t373.length + y376.length < 4398046511104 then (some (t373 ++ y376)) else (none)))) else (r19_Chain.l0 k x0 x1 x8 (wrap64 (x9 + 1)) x365000 x365001))) else (none)) else (some ([] : List (S24)))
def r19_Chain.f : Nat → List (S49) → List (List (S24)) → ByteArray → ByteArray → Option ((List (S24)))
 | 0, _, _, _, _ => none
 | k + 1, l0, l1, a2_0, a2_1 => (r19_Depth.f k l1 a2_0 a2_1).bind fun t365 => (if t365 ≤ 1 then (some (([(⟨a2_0, a2_1⟩ : S24)] : List (S24)))) else (if 0 ≤ (wrap64 (t365 - 2)) then (if (wrap64 (t365 - 2)) < (l1.length : Int) then (r19_Chain.l0 k l0 l1 (rd_L11 l1 (wrap64 (t365 - 2))) 0 a2_0 a2_1) else (none)) else (none)))
end
end Go.Proofs.YtjfcmkddeglghaaGreatDoor.G
end
section
namespace Go.Proofs.YtjfcmkddeglghaaGreatDoor.G
open Go.RowKit Gw Go.Proofs.YtjfcmkddeglghaaGreatDoorW.PrintWords Go.Proofs.YtjfcmkddeglghaaGreatDoorW.PrintLast Go.Proofs.YtjfcmkddeglghaaGreatDoorW.PrintMore
set_option linter.unusedVariables false
set_option linter.unusedSimpArgs false
def few1 (s : ByteArray) : ByteArray := if s.size > 400 then s.extract 0 400 else s
theorem few1_ev (s : ByteArray) : w01_Few.f s = some (few1 s) := by
  unfold w01_Few.f few1
  by_cases h : s.size > 400
  · rw [if_pos (by omega), if_pos (by omega), if_pos (by omega), if_pos h]
  · rw [if_neg (by omega), if_neg h]
theorem few1_size (s : ByteArray) : (few1 s).size ≤ 400 := by
  unfold few1
  split
  · rw [ByteArray.size_extract]; omega
  · omega
def fewN (x : SNode) : SNode := ⟨few1 x.f0, few1 x.f1⟩
theorem fewN_ok (x : SNode) : okNode (fewN x) = true := by
  have h0 := few1_size x.f0
  have h1 := few1_size x.f1
  unfold okNode fewN
  simp only [Bool.and_eq_true, decide_eq_true_eq]
  omega
theorem one_ev (a b : ByteArray) : w05_One.f a b = some (few1 a, few1 b) := by
  unfold w05_One.f
  rw [few1_ev, few1_ev]
  rfl
def fewL (l : List SNeed) : List SNeed := (l.take 30).map fun x => ⟨fewN x.f0, fewN x.f1⟩
theorem fewL_len (l : List SNeed) : (fewL l).length ≤ 30 := by unfold fewL; simp; omega
theorem fewL_ok (l : List SNeed) : ∀ x ∈ fewL l, okNeed x = true := by
  intro x hx
  unfold fewL at hx
  obtain ⟨y, _, rfl⟩ := List.mem_map.1 hx
  unfold okNeed
  simp only [Bool.and_eq_true]
  exact ⟨fewN_ok _, fewN_ok _⟩
theorem fewL_loop (l : List SNeed) : ∀ n i (acc : List SNeed), i + n = min l.length 30 → acc.length = i →
    Ev (fun k => w18_Few.l0 k l acc (i : Int)) (acc ++ ((l.take 30).drop i).map fun x => ⟨fewN x.f0, fewN x.f1⟩) := by
  intro n
  induction n with
  | zero =>
    intro i acc hi ha
    have hd : (l.take 30).drop i = [] := List.drop_of_length_le (by rw [List.length_take]; omega)
    rw [hd, List.map_nil, List.append_nil]
    refine Ev.succ ?_
    simp only [w18_Few.l0]
    by_cases h : i < l.length
    · refine Ev.pos (by omega) (Ev.succ ?_)
      simp only [w18_Few.j1]
      exact Ev.neg (by simp; omega) (Ev.some_ _)
    · refine Ev.neg (by omega) (Ev.succ ?_)
      simp only [w18_Few.j1]
      exact Ev.neg (by simp) (Ev.some_ _)
  | succ n ih =>
    intro i acc hi ha
    have hil : i < l.length := by omega
    have hi30 : i < 30 := by omega
    refine Ev.succ ?_
    simp only [w18_Few.l0]
    refine Ev.pos (by omega) (Ev.succ ?_)
    simp only [w18_Few.j1]
    refine Ev.pos (by simp; omega) (Ev.pos (by omega) (Ev.pos (by omega) ?_))
    rw [rdNeed_at l i hil, w64n i (by omega)]
    refine Ev.bindc (one_ev _ _) (Ev.bindc (one_ev _ _) (Ev.pos (by omega) ?_))
    refine Ev.val (ih (i + 1) _ (by omega) (by simp [ha])) ?_
    have hlt : i < (l.take 30).length := by rw [List.length_take]; omega
    rw [drop_at (l.take 30) i hlt, List.map_cons, List.getElem_take]
    simp [fewN]
theorem fewL_ev (l : List SNeed) : Ev (fun k => w18_Few.f k l) (fewL l) := by
  unfold w18_Few.f fewL
  exact Ev.val (fewL_loop l (min l.length 30) 0 [] (by omega) rfl) (by simp)
theorem refHasN_loop (l : List SNeed) (a b : SNode) (hl : l.length < 1000000000) : ∀ n i, i + n = l.length →
    Ev (fun k => r19_Has.l0 k l (i : Int) a.f0 a.f1 b.f0 b.f1) (decide ((a, b) ∈ (prs l).drop i)) := by
  intro n
  induction n with
  | zero =>
    intro i hi
    refine Ev.succ ?_
    simp only [r19_Has.l0]
    refine Ev.neg (by omega) (Ev.some_eq ?_)
    rw [List.drop_of_length_le (by simp [prs]; omega)]
    rfl
  | succ n ih =>
    intro i hi
    have hil : i < l.length := by omega
    refine Ev.succ ?_
    simp only [r19_Has.l0]
    refine Ev.pos (by omega) (Ev.pos (by omega) ?_)
    rw [rdNeed_at l i hil, w64n i (by omega)]
    have hd : (prs l).drop i = (l[i].f0, l[i].f1) :: (prs l).drop (i + 1) := by
      rw [drop_at (prs l) i (by simpa [prs] using hil)]
      simp [prs]
    rw [hd]
    have hrest : ¬ (a, b) = (l[i].f0, l[i].f1) → decide ((a, b) ∈ (prs l).drop (i + 1)) = decide ((a, b) ∈ (l[i].f0, l[i].f1) :: (prs l).drop (i + 1)) := by
      intro hne
      apply decide_eq_decide.2
      rw [List.mem_cons]
      exact ⟨fun h => .inr h, fun h => h.resolve_left hne⟩
    by_cases h0 : sameN l[i].f0 a = true
    · refine Ev.pos h0 ?_
      by_cases h1 : sameN l[i].f1 b = true
      · refine Ev.pos h1 (Ev.some_eq ?_)
        rw [(sameN_iff _ _).1 h0, (sameN_iff _ _).1 h1]
        simp
      · refine Ev.neg h1 (Ev.val (ih (i + 1) (by omega)) (hrest ?_))
        intro e
        injection e with _ e
        exact h1 ((sameN_iff _ _).2 e.symm)
    · refine Ev.neg h0 (Ev.val (ih (i + 1) (by omega)) (hrest ?_))
      intro e
      injection e with e _
      exact h0 ((sameN_iff _ _).2 e.symm)
theorem refHasN_ev (l : List SNeed) (a b : SNode) (hl : l.length < 1000000000) : Ev (fun k => r19_Has.f k l a.f0 a.f1 b.f0 b.f1) (decide ((a, b) ∈ prs l)) := by
  unfold r19_Has.f
  exact Ev.val (refHasN_loop l a b hl _ 0 (Nat.zero_add _)) (by rw [List.drop_zero])
theorem rdL_at (lv : List (List SNode)) (i : Nat) (h : i < lv.length) : rd_L11 lv (i : Int) = lv[i] := rdOf_at _ lv i h
theorem refDepth_loop (lv : List (List SNode)) (y : SNode) (hl : lv.length < 1000000000) (hL : ∀ L ∈ lv, L.length < 1000000000) : ∀ n i, i + n = lv.length →
    Ev (fun k => r19_Depth.l0 k lv (i : Int) y.f0 y.f1) (if depthOf (lv.drop i) y = 0 then 0 else ((i + depthOf (lv.drop i) y : Nat) : Int)) := by
  intro n
  induction n with
  | zero =>
    intro i hi
    refine Ev.succ ?_
    simp only [r19_Depth.l0]
    refine Ev.neg (by omega) (Ev.some_eq ?_)
    rw [List.drop_of_length_le (by omega)]
    rfl
  | succ n ih =>
    intro i hi
    have hil : i < lv.length := by omega
    refine Ev.succ ?_
    simp only [r19_Depth.l0]
    refine Ev.pos (by omega) (Ev.pos (by omega) ?_)
    rw [rdL_at lv i hil, drop_at lv i hil, w64n i (by omega)]
    refine Ev.bind (refHas_ev lv[i] y (hL _ (List.getElem_mem _))) ?_
    unfold depthOf
    by_cases h : y ∈ lv[i]
    · refine Ev.pos (by simpa using h) (Ev.some_eq ?_)
      rw [if_pos h, if_neg (by omega)]
    · refine Ev.neg (by simpa using h) (Ev.val (ih (i + 1) (by omega)) ?_)
      rw [if_neg h]
      by_cases h0 : depthOf (lv.drop (i + 1)) y = 0
      · rw [if_pos h0, if_pos h0, if_pos rfl]
      · rw [if_neg h0, if_neg h0, if_neg (by omega)]
        congr 1
        omega
theorem refDepth_ev (lv : List (List SNode)) (y : SNode) (hl : lv.length < 1000000000) (hL : ∀ L ∈ lv, L.length < 1000000000) : Ev (fun k => r19_Depth.f k lv y.f0 y.f1) (depthOf lv y : Int) := by
  unfold r19_Depth.f
  refine Ev.val (refDepth_loop lv y hl hL _ 0 (Nat.zero_add _)) ?_
  rw [List.drop_zero, Nat.zero_add]
  split
  · rename_i h; rw [h]; rfl
  · rfl
theorem refChain_ev (l : List SNeed) (lv : List (List SNode)) (hl : l.length < 1000000000) (hlv : lv.length < 1000000000) (hL : ∀ L ∈ lv, L.length < 1000000000) : ∀ (k : Nat) (y : SNode) (c : List SNode), rChain (prs l) lv k y = some c → k < 1000000 → c.length ≤ k ∧ Ev (fun k => r19_Chain.f k l lv y.f0 y.f1) c := by
  intro k
  induction k with
  | zero => intro y c h; simp [rChain] at h
  | succ k ih =>
    intro y c h hk
    simp only [rChain] at h
    by_cases hd : depthOf lv y ≤ 1
    · rw [if_pos hd] at h
      obtain rfl := Option.some.inj h
      refine ⟨by simp, Ev.succ ?_⟩
      simp only [r19_Chain.f]
      exact Ev.bind (refDepth_ev lv y hlv hL) (Ev.pos (by omega) (Ev.some_ _))
    · rw [if_neg hd] at h
      obtain ⟨L, hL1, h⟩ := Option.bind_eq_some_iff.1 h
      have hlt : depthOf lv y - 2 < lv.length := (List.getElem?_eq_some_iff.1 hL1).1
      have hLe : lv[depthOf lv y - 2] = L := (List.getElem?_eq_some_iff.1 hL1).2
      have hdl : depthOf lv y < 1000000003 := by omega
      have hLl : L.length < 1000000000 := hL L (List.mem_of_getElem? hL1)
      have hfin : ∀ c, Ev (fun k => r19_Chain.l0 k l lv L (0 : Int) y.f0 y.f1) c → Ev (fun k => r19_Chain.f k l lv y.f0 y.f1) c := by
        intro c e2
        refine Ev.succ ?_
        simp only [r19_Chain.f]
        refine Ev.bind (refDepth_ev lv y hlv hL) (Ev.neg (by omega) ?_)
        rw [w64 (by omega) (by omega), show ((depthOf lv y : Int) - 2) = ((depthOf lv y - 2 : Nat) : Int) from by omega, rdL_at lv _ hlt, hLe]
        exact Ev.pos (by omega) (Ev.pos (by omega) e2)
      have hsome : ∀ (q : SNode → Bool), (∀ a, q a = decide ((a, y) ∈ prs l)) → ∀ (a : SNode) (c' : List SNode), rChain (prs l) lv k a = some c' → ∀ n i, i + n = L.length → (L.drop i).find? q = some a →
          Ev (fun k => r19_Chain.l0 k l lv L (i : Int) y.f0 y.f1) (c' ++ [y]) := by
        intro q hq a c' hc n
        obtain ⟨e1, e2⟩ := ih a c' hc (by omega)
        induction n with
        | zero =>
          intro i hi hf
          rw [List.drop_of_length_le (by omega)] at hf
          cases hf
        | succ n ihn =>
          intro i hi hf
          have hil : i < L.length := by omega
          rw [drop_at L i hil, List.find?_cons, hq] at hf
          have hH := refHasN_ev l L[i] y hl
          refine Ev.succ ?_
          simp only [r19_Chain.l0]
          refine Ev.pos (by omega) (Ev.pos (by omega) ?_)
          rw [rdNode_at L i hil, w64n i (by omega)]
          cases hm : decide ((L[i], y) ∈ prs l) with
          | true =>
            rw [hm] at hf hH
            have hf := Option.some.inj hf
            rw [hf] at hH ⊢
            exact Ev.bind hH (Ev.pos rfl (Ev.bind e2 (Ev.bindc rfl (Ev.pos (by simp; omega) (Ev.some_ _)))))
          | false =>
            rw [hm] at hf hH
            exact Ev.bind hH (Ev.neg (by simp) (ihn (i + 1) (by omega) hf))
      have hnone : ∀ (q : SNode → Bool), (∀ a, q a = decide ((a, y) ∈ prs l)) → ∀ n i, i + n = L.length → (L.drop i).find? q = none →
          Ev (fun k => r19_Chain.l0 k l lv L (i : Int) y.f0 y.f1) [] := by
        intro q hq n
        induction n with
        | zero =>
          intro i hi hf
          refine Ev.succ ?_
          simp only [r19_Chain.l0]
          exact Ev.neg (by omega) (Ev.some_ _)
        | succ n ihn =>
          intro i hi hf
          have hil : i < L.length := by omega
          rw [drop_at L i hil, List.find?_cons, hq] at hf
          have hH := refHasN_ev l L[i] y hl
          refine Ev.succ ?_
          simp only [r19_Chain.l0]
          refine Ev.pos (by omega) (Ev.pos (by omega) ?_)
          rw [rdNode_at L i hil, w64n i (by omega)]
          cases hm : decide ((L[i], y) ∈ prs l) with
          | true =>
            rw [hm] at hf
            cases hf
          | false =>
            rw [hm] at hf hH
            exact Ev.bind hH (Ev.neg (by simp) (ihn (i + 1) (by omega) hf))
      split at h
      · rename_i a hf
        obtain ⟨c', hc', rfl⟩ := Option.map_eq_some_iff.1 h
        obtain ⟨q, hfq, hq⟩ : ∃ q : SNode → Bool, L.find? q = some a ∧ ∀ a, q a = decide ((a, y) ∈ prs l) := ⟨_, hf, fun a => decide_eq_decide.2 Iff.rfl⟩
        obtain ⟨e1, _⟩ := ih a c' hc' (by omega)
        exact ⟨by simp; omega, hfin _ (hsome q hq a c' hc' L.length 0 (Nat.zero_add _) (by rw [List.drop_zero]; exact hfq))⟩
      · rename_i hf
        obtain rfl := Option.some.inj h
        obtain ⟨q, hfq, hq⟩ : ∃ q : SNode → Bool, L.find? q = none ∧ ∀ a, q a = decide ((a, y) ∈ prs l) := ⟨_, hf, fun a => decide_eq_decide.2 Iff.rfl⟩
        exact ⟨by simp, hfin _ (hnone q hq L.length 0 (Nat.zero_add _) (by rw [List.drop_zero]; exact hfq))⟩
end Go.Proofs.YtjfcmkddeglghaaGreatDoor.G
end
section
namespace Go.Proofs.YtjfcmkddeglghaaGreatDoor.G
open Go.RowKit Gw Go.Proofs.YtjfcmkddeglghaaGreatDoorW.PrintWords Go.Proofs.YtjfcmkddeglghaaGreatDoorW.PrintLast Go.Proofs.YtjfcmkddeglghaaGreatDoorW.PrintMore
set_option linter.unusedVariables false
set_option linter.unusedSimpArgs false
set_option linter.unusedSectionVars false
theorem rdDeep_at (l : List SDeep) (i : Nat) (h : i < l.length) : rd_T46 l (i : Int) = l[i] := rdOf_at _ l i h
def refDeps (lv : List (List SNode)) : List SDeep := (setS ndC lv.flatten).map fun y => ⟨y, (depthOf lv y : Int)⟩
theorem setS_len (l : List SNode) (hl : ∀ y ∈ l, goodN y) : (setS ndC l).length ≤ l.length :=
  nodup_len _ _ (sorted_nodup ndC_total (setS_sorted ndC_total hl)) (fun y hy => (mem_setS ndC_total hl).1 hy)
structure Known (l : List SNeed) (lv : List (List SNode)) (r : DMap) : Prop where
  len : l.length ≤ 30
  ok : ∀ x ∈ l, okNeed x = true
  may : l.any badNeed = false
  out : outerD l (l.length + 2) 1 [zN] [] = some r
  lev : rLevels ndC (prs l) (l.length + 2) [zN] [] = some lv
  t : Gw.Told ndC goodN (prs l) zN lv r
theorem Known.mk' {l : List SNeed} (h1 : l.length ≤ 30) (h2 : ∀ x ∈ l, okNeed x = true) (h3 : l.any badNeed = false) : ∃ lv r, Known l lv r := by
  obtain ⟨lv, r, a, b, c⟩ := told_needs h2 h3
  exact ⟨lv, r, h1, h2, h3, a, b, c⟩
section
variable {l : List SNeed} {lv : List (List SNode)} {r : DMap} (K : Known l lv r)
include K
theorem Known.lvl : lv.length ≤ 30 := by have := levels_len K.t; have := K.len; omega
theorem Known.good : ∀ L ∈ lv, ∀ y ∈ L, goodN y := fun L hL => (K.t.lev.lvl L hL).2.2
theorem Known.Ll : ∀ L ∈ lv, L.length ≤ 30 := by
  intro L hL
  obtain ⟨i, hi, e⟩ := List.getElem_of_mem hL
  have h1 := nodup_len L ((prs l).map Prod.snd) (sorted_nodup ndC_total (K.t.lev.lvl L hL).1) (fun y hy => by
    cases i with
    | zero =>
      obtain ⟨x, hx, _, e2⟩ := K.t.lev.from0 L (by rw [List.getElem?_eq_getElem hi, e]) y hy
      exact List.mem_map.2 ⟨x, hx, e2⟩
    | succ i =>
      obtain ⟨x, hx, _, e2⟩ := K.t.lev.fromS i (lv[i]'(by omega)) L (List.getElem?_eq_getElem (by omega)) (by rw [List.getElem?_eq_getElem hi, e]) y hy
      exact List.mem_map.2 ⟨x, hx, e2⟩)
  have := K.len
  simp [prs] at h1
  omega
omit K in
theorem flat_len : ∀ (M : List (List SNode)), (∀ L ∈ M, L.length ≤ 30) → M.flatten.length ≤ 30 * M.length := by
  intro M
  induction M with
  | nil => intro _; simp
  | cons L M ih =>
    intro h
    have h1 := ih (fun x hx => h x (by simp [hx]))
    have h2 := h L (by simp)
    simp only [List.flatten_cons, List.length_append, List.length_cons]
    omega
theorem Known.flat : lv.flatten.length ≤ 900 := by have := flat_len lv K.Ll; have := K.lvl; omega
theorem Known.deps : refDeps lv = depsOf r := by
  have hgf : ∀ y ∈ lv.flatten, goodN y := by
    intro y hy
    obtain ⟨L, h1, h2⟩ := List.mem_flatten.1 hy
    exact K.good L h1 y h2
  refine deps_unique K.t.lev.nodup (fun y hy => ?_) _ ?_ (fun q => ?_)
  · obtain ⟨⟨a, v⟩, hq, rfl⟩ := List.mem_map.1 hy
    exact K.t.good ((K.t.mem a v).1 hq).1
  · unfold refDeps
    rw [List.map_map]
    have : ((fun q : SDeep => q.f0) ∘ fun y : SNode => (⟨y, (depthOf lv y : Int)⟩ : SDeep)) = id := rfl
    rw [this, List.map_id]
    exact setS_sorted ndC_total hgf
  · unfold refDeps
    rw [K.t.mem, List.mem_map]
    constructor
    · rintro ⟨y, hy, rfl⟩
      refine ⟨?_, rfl⟩
      rw [mem_setS ndC_total hgf] at hy
      obtain ⟨L, h1, h2⟩ := List.mem_flatten.1 hy
      intro h0
      exact (depthOf_zero lv y).1 h0 L h1 h2
    · rintro ⟨h0, hv⟩
      refine ⟨q.f0, ?_, ?_⟩
      · rw [mem_setS ndC_total hgf]
        obtain ⟨i, hi⟩ : ∃ i, depthOf lv q.f0 = i + 1 := ⟨depthOf lv q.f0 - 1, by omega⟩
        obtain ⟨L, h1, h2⟩ := depthOf_some lv q.f0 i hi
        exact List.mem_flatten.2 ⟨L, List.mem_of_getElem? h1, h2⟩
      · obtain ⟨a, b⟩ := q
        simp only at hv ⊢
        rw [hv]
theorem Known.progDepths : why_Depths.f l = some (refDeps lv, 0) := by
  unfold why_Depths.f
  have h1 : l.all okNeed = true := List.all_eq_true.2 K.ok
  have := K.len
  rw [h1, if_pos (by simp; omega), if_neg (by rw [K.may]; simp), K.out, K.deps]
  rfl
theorem Known.deps_len : (refDeps lv).length ≤ 900 := by
  have hgf : ∀ y ∈ lv.flatten, goodN y := by
    intro y hy
    obtain ⟨L, h1, h2⟩ := List.mem_flatten.1 hy
    exact K.good L h1 y h2
  have h1 := setS_len lv.flatten hgf
  have h2 := K.flat
  unfold refDeps
  rw [List.length_map]
  omega
theorem Known.chain {n : SNode} (hn : okNode n = true) (hm : mayN n = true) (h0 : depthOf lv n ≠ 0) : ∃ c, why_Chain.f l n.f0 n.f1 = some (c, 0) ∧ Ev (fun k => r19_Chain.f k l lv n.f0 n.f1) c ∧ c.length = depthOf lv n ∧ c.length ≤ 31 := by
  obtain ⟨i, hi⟩ : ∃ i, depthOf lv n = i + 1 := ⟨depthOf lv n - 1, by omega⟩
  obtain ⟨c, h1, h2, h3⟩ := K.t.chain i n hi
  have hlt : i < lv.length := by
    obtain ⟨L, hL, _⟩ := depthOf_some lv n i hi
    exact (List.getElem?_eq_some_iff.1 hL).1
  have hlv := K.lvl
  have hll := K.len
  have h4 := refChain_ev l lv (by omega) (by omega) (fun L hL => by have := K.Ll L hL; omega) (i + 1 + 0) n c (h2 0) (by omega)
  refine ⟨c, ?_, h4.2, by omega, by omega⟩
  unfold why_Chain.f
  have e1 : l.all okNeed = true := List.all_eq_true.2 K.ok
  have e2 : okNode ⟨n.f0, n.f1⟩ = true := hn
  have e3 : mayN ⟨n.f0, n.f1⟩ = true := hm
  rw [e1, e2, e3, K.may, if_pos (by simp; omega), if_neg (by simp), K.out]
  simp only [Option.bind_some]
  have e4 : lookM r ⟨n.f0, n.f1⟩ = some ((i + 1 : Nat) : Int) := by
    rw [lookM_eq, K.t.look, if_neg h0, hi]
  rw [e4]
  simp only
  have e5 : (((i + 1 : Nat) : Int)).toNat - 1 = i := by omega
  have e6 : farM r = fun y => (r.lookup y).getD 0 := by
    funext y
    unfold farM
    rw [lookM_eq]
  rw [e5, e6, h1]
  rfl
end
theorem bad_depths {l : List SNeed} (h1 : l.length ≤ 30) (h2 : ∀ x ∈ l, okNeed x = true) (h3 : l.any badNeed = true) : why_Depths.f l = some ([], 1) := by
  unfold why_Depths.f
  have e1 : l.all okNeed = true := List.all_eq_true.2 h2
  rw [e1, if_pos (by simp; omega), if_pos h3]
end Go.Proofs.YtjfcmkddeglghaaGreatDoor.G
end
section
namespace Go.Proofs.YtjfcmkddeglghaaGreatDoor.G
open Go.RowKit Gw Go.Proofs.YtjfcmkddeglghaaGreatDoorW.PrintWords Go.Proofs.YtjfcmkddeglghaaGreatDoorW.PrintLast Go.Proofs.YtjfcmkddeglghaaGreatDoorW.PrintMore
set_option linter.unusedVariables false
set_option linter.unusedSimpArgs false
set_option linter.unusedSectionVars false
def scanD (ds : List SDeep) (z : SNode) (x : Int) : Int := ds.foldl (fun a d => if sameN d.f0 z = true then d.f1 else a) x
theorem scan_map (f : SNode → Int) (z : SNode) : ∀ (L : List SNode) (x : Int), scanD (L.map fun y => ⟨y, f y⟩) z x = if z ∈ L then f z else x := by
  intro L
  induction L with
  | nil => intro x; rfl
  | cons y L ih =>
    intro x
    show scanD (L.map fun y => ⟨y, f y⟩) z (if sameN y z = true then f y else x) = _
    rw [ih]
    by_cases h : sameN y z = true
    · have e := (sameN_iff y z).1 h
      subst e
      rw [if_pos h]
      by_cases h2 : y ∈ L <;> simp [h2]
    · have hne : ¬ z = y := fun e => h ((sameN_iff y z).2 e.symm)
      rw [if_neg h]
      by_cases h2 : z ∈ L <;> simp [h2, hne]
section
variable {l : List SNeed} {lv : List (List SNode)} {r : DMap} (K : Known l lv r)
include K
theorem Known.flatGood : ∀ y ∈ lv.flatten, goodN y := by
  intro y hy
  obtain ⟨L, h1, h2⟩ := List.mem_flatten.1 hy
  exact K.good L h1 y h2
theorem Known.memSet (y : SNode) : y ∈ setS ndC lv.flatten ↔ depthOf lv y ≠ 0 := by
  rw [mem_setS ndC_total K.flatGood]
  constructor
  · intro hy h0
    obtain ⟨L, h1, h2⟩ := List.mem_flatten.1 hy
    exact (depthOf_zero lv y).1 h0 L h1 h2
  · intro h0
    obtain ⟨i, hi⟩ : ∃ i, depthOf lv y = i + 1 := ⟨depthOf lv y - 1, by omega⟩
    obtain ⟨L, h1, h2⟩ := depthOf_some lv y i hi
    exact List.mem_flatten.2 ⟨L, List.mem_of_getElem? h1, h2⟩
theorem Known.scan (z : SNode) : scanD (refDeps lv) z 0 = (depthOf lv z : Int) := by
  unfold refDeps
  rw [scan_map]
  by_cases h : z ∈ setS ndC lv.flatten
  · rw [if_pos h]
  · rw [if_neg h]
    have : depthOf lv z = 0 := by
      apply Classical.byContradiction
      intro h0
      exact h ((K.memSet z).2 h0)
    rw [this]; rfl
theorem Known.depth_le (y : SNode) : depthOf lv y ≤ 30 := by
  by_cases h : depthOf lv y = 0
  · omega
  obtain ⟨i, hi⟩ : ∃ i, depthOf lv y = i + 1 := ⟨depthOf lv y - 1, by omega⟩
  obtain ⟨L, h1, _⟩ := depthOf_some lv y i hi
  have := (List.getElem?_eq_some_iff.1 h1).1
  have := K.lvl
  omega
omit K in
theorem law_l2 (l : List SNeed) (ds : List SDeep) (j : Nat) (hj : j < l.length) (hll : l.length < 1000000000) (hds : ds.length < 1000000000) (A B : Int) (hA : 0 ≤ A ∧ A < 1000000) (h1 : l[j].f0 = zN → B = 1) (h2 : A > 0 → B ≠ 0 ∧ B ≤ A + 1)
    (hnext : Ev (fun k => w19_WhyDepths.l1 k l ds ((j + 1 : Nat) : Int)) true) : ∀ n i, i + n = ds.length → ∀ a b, scanD (ds.drop i) l[j].f0 a = A → scanD (ds.drop i) l[j].f1 b = B → Ev (fun k => w19_WhyDepths.l2 k l ds (j : Int) a b (i : Int)) true := by
  intro n
  induction n with
  | zero =>
    intro i hi a b ha hb
    rw [List.drop_of_length_le (by omega)] at ha hb
    have ha' : a = A := ha
    have hb' : b = B := hb
    subst ha' hb'
    refine Ev.succ ?_
    simp only [w19_WhyDepths.l2]
    refine Ev.neg (by omega) (Ev.pos (by omega) (Ev.pos (by omega) ?_))
    rw [rdNeed_at l j hj, w64n j (by omega)]
    have tail : Ev (fun k => if a > 0 then (if b = 0 then (some false) else (if b > (wrap64 (a + 1)) then (some false) else (w19_WhyDepths.l1 k l ds ((j + 1 : Nat) : Int)))) else (w19_WhyDepths.l1 k l ds ((j + 1 : Nat) : Int))) true := by
      by_cases h0 : a > 0
      · obtain ⟨h3, h4⟩ := h2 h0
        refine Ev.pos h0 (Ev.neg h3 (Ev.neg ?_ hnext))
        rw [w64 (by omega) (by omega)]
        omega
      · exact Ev.neg h0 hnext
    by_cases hz : ((l[j].f0.f0.toList == ([] : List UInt8)) && (l[j].f0.f1.toList == ([] : List UInt8))) = true
    · refine Ev.pos hz (Ev.pos (h1 ?_) tail)
      simp only [Bool.and_eq_true, beq_iff_eq] at hz
      apply (sameN_iff _ _).1
      unfold sameN
      rw [hz.1, hz.2]
      simp [zN, toList_data]
    · exact Ev.neg hz tail
  | succ n ih =>
    intro i hi a b ha hb
    have hil : i < ds.length := by omega
    rw [drop_at ds i hil] at ha hb
    refine Ev.succ ?_
    simp only [w19_WhyDepths.l2]
    refine Ev.pos (by omega) (Ev.pos (by omega) (Ev.pos (by omega) (Ev.pos (by omega) ?_)))
    rw [rdNeed_at l j hj, rdDeep_at ds i hil, w64n i (by omega)]
    have ha' : scanD (ds.drop (i + 1)) l[j].f0 (if sameN ds[i].f0 l[j].f0 = true then ds[i].f1 else a) = A := ha
    have hb' : scanD (ds.drop (i + 1)) l[j].f1 (if sameN ds[i].f0 l[j].f1 = true then ds[i].f1 else b) = B := hb
    by_cases c0 : sameN ds[i].f0 l[j].f0 = true
    · rw [if_pos c0] at ha'
      refine Ev.pos c0 ?_
      by_cases c1 : sameN ds[i].f0 l[j].f1 = true
      · rw [if_pos c1] at hb'
        exact Ev.pos c1 (ih (i + 1) (by omega) _ _ ha' hb')
      · rw [if_neg c1] at hb'
        exact Ev.neg c1 (ih (i + 1) (by omega) _ _ ha' hb')
    · rw [if_neg c0] at ha'
      refine Ev.neg c0 ?_
      by_cases c1 : sameN ds[i].f0 l[j].f1 = true
      · rw [if_pos c1] at hb'
        exact Ev.pos c1 (ih (i + 1) (by omega) _ _ ha' hb')
      · rw [if_neg c1] at hb'
        exact Ev.neg c1 (ih (i + 1) (by omega) _ _ ha' hb')
theorem Known.law_l1 : ∀ n j, j + n = l.length → Ev (fun k => w19_WhyDepths.l1 k l (refDeps lv) (j : Int)) true := by
  have hdl := K.deps_len
  have hll := K.len
  intro n
  induction n with
  | zero =>
    intro j hj
    refine Ev.succ ?_
    simp only [w19_WhyDepths.l1]
    exact Ev.neg (by omega) (Ev.bindc (show w19_awake.f = some true from rfl) (Ev.some_ _))
  | succ n ih =>
    intro j hj
    have hjl : j < l.length := by omega
    refine Ev.succ ?_
    simp only [w19_WhyDepths.l1]
    refine Ev.pos (by omega) ?_
    have hm : (l[j].f0, l[j].f1) ∈ prs l := List.mem_map.2 ⟨l[j], List.getElem_mem hjl, rfl⟩
    have h := K.t.needs _ hm
    have hle := K.depth_le l[j].f0
    refine law_l2 l (refDeps lv) j hjl (by omega) (by omega) (depthOf lv l[j].f0 : Int) (depthOf lv l[j].f1 : Int) (by omega) (fun e => ?_) (fun h0 => ?_) (ih (j + 1) (by omega)) _ 0 (Nat.zero_add _) 0 0 ?_ ?_
    · have := h.1 e; simp only at this; omega
    · have := h.2 (by simp only; omega); simp only at this; omega
    · exact K.scan _
    · exact K.scan _
theorem Known.law_l0 : ∀ n i, i + n = (refDeps lv).length → Ev (fun k => w19_WhyDepths.l0 k l (refDeps lv) (i : Int)) true := by
  have hdl := K.deps_len
  have hlen : (refDeps lv).length = (setS ndC lv.flatten).length := by unfold refDeps; simp
  have hget : ∀ i (h : i < (refDeps lv).length), (refDeps lv)[i] = ⟨(setS ndC lv.flatten)[i]'(hlen ▸ h), (depthOf lv ((setS ndC lv.flatten)[i]'(hlen ▸ h)) : Int)⟩ := by
    intro i h
    simp only [refDeps, List.getElem_map]
  have hgood : ∀ y ∈ setS ndC lv.flatten, goodN y := fun y hy => K.flatGood y ((mem_setS ndC_total K.flatGood).1 hy)
  intro n
  induction n with
  | zero =>
    intro i hi
    refine Ev.succ ?_
    simp only [w19_WhyDepths.l0]
    exact Ev.neg (by omega) (K.law_l1 _ 0 (Nat.zero_add _))
  | succ n ih =>
    intro i hi
    have hil : i < (refDeps lv).length := by omega
    have his : i < (setS ndC lv.flatten).length := by omega
    refine Ev.succ ?_
    simp only [w19_WhyDepths.l0]
    refine Ev.pos (by omega) (Ev.pos (by omega) ?_)
    rw [rdDeep_at _ i hil, w64n i (by omega), hget i hil]
    generalize hy : (setS ndC lv.flatten)[i]'his = y
    have hm : y ∈ setS ndC lv.flatten := hy ▸ List.getElem_mem his
    have hg := hgood y hm
    obtain ⟨c, h1, _, h3, _⟩ := K.chain hg.1 hg.2 ((K.memSet y).1 hm)
    refine Ev.bindc h1 (Ev.pos rfl (Ev.pos (by simp only; omega) ?_))
    by_cases h0 : i = 0
    · subst h0
      exact Ev.neg (by omega) (ih 1 (by omega))
    · have hp : (i : Int) - 1 = ((i - 1 : Nat) : Int) := by omega
      have hil' : i - 1 < (refDeps lv).length := by omega
      have his' : i - 1 < (setS ndC lv.flatten).length := by omega
      refine Ev.pos (by omega) ?_
      rw [w64 (by omega) (by omega), hp, rdDeep_at _ (i - 1) hil', hget (i - 1) hil']
      refine Ev.pos (by omega) (Ev.pos (by omega) ?_)
      have hlt : ndC ((setS ndC lv.flatten)[i - 1]'his') y < 0 := by
        have hs := setS_sorted ndC_total K.flatGood
        unfold Sorted at hs
        have := List.pairwise_iff_getElem.1 hs (i - 1) i his' his (by omega)
        rwa [hy] at this
      have he := refLess_ev ((setS ndC lv.flatten)[i - 1]'his') y (hgood _ (List.getElem_mem his')) hg
      rw [decide_eq_true hlt] at he
      exact Ev.bind he (Ev.pos rfl (ih (i + 1) (by omega)))
end
theorem WhyDepths_ev (l0 : List SNeed) : Ev (fun k => w19_WhyDepths.f k l0) true := by
  unfold w19_WhyDepths.f
  refine Ev.bind (fewL_ev l0) ?_
  have hlen := fewL_len l0
  have hok := fewL_ok l0
  generalize fewL l0 = l at hlen hok
  cases hb : l.any badNeed with
  | true =>
    refine Ev.bindc (bad_depths hlen hok hb) (Ev.neg (by simp) (Ev.pos (by simp) ?_))
    exact Ev.bindc (show w19_awake.f = some true from rfl) (Ev.some_ _)
  | false =>
    obtain ⟨lv, r, K⟩ := Known.mk' hlen hok hb
    exact Ev.bindc K.progDepths (Ev.pos rfl (K.law_l0 _ 0 (Nat.zero_add _)))
end Go.Proofs.YtjfcmkddeglghaaGreatDoor.G
end
section
namespace Go.Proofs.YtjfcmkddeglghaaGreatDoor.G
open Go.RowKit Go.ChangeShapes Go.WideShapes Go.Proofs.YtjfcmkddeglghaaGreatDoorW.PrintWords Go.Proofs.YtjfcmkddeglghaaGreatDoorW.PrintLast
set_option linter.unusedVariables false
set_option linter.unusedSimpArgs false
section
variable {H : Type} {enc : TypeId × Value → H} {w : World} {base : Nat} {spare : Nat → Bool} {held : Bool} {n : Nat} {cs : List Value} {y : DataW H × List MemPlace}
theorem und9 : Tryz.prog.underlying 9 = some .string := by kernel_rfl
theorem cells9 : Tryz.prog.cellsOf 9 = 1 := by kernel_rfl
theorem cells24 : Tryz.prog.cellsOf 24 = 2 := by kernel_rfl
theorem cells49 : Tryz.prog.cellsOf 49 = 4 := by kernel_rfl
theorem two_of {β : Type} {l : List β} (h : l.length = 2) : ∃ a b, l = [a, b] := by
  rcases l with _ | ⟨a, _ | ⟨b, _ | ⟨c, t⟩⟩⟩
  · simp at h
  · simp at h
  · exact ⟨a, b, rfl⟩
  · simp at h
theorem four_of {β : Type} {l : List β} (h : l.length = 4) : ∃ a b c d, l = [a, b, c, d] := by
  rcases l with _ | ⟨a, _ | ⟨b, _ | ⟨c, _ | ⟨d, _ | ⟨e, t⟩⟩⟩⟩⟩
  · simp at h
  · simp at h
  · simp at h
  · simp at h
  · exact ⟨a, b, c, d, rfl⟩
  · simp at h
set_option maxRecDepth 100000 in
theorem open_node (h : DataW.trod enc Tryz.prog w base spare held n 24 cs = some y) : ∃ x : S24, cs = [.string x.f0, .string x.f1] := by
  obtain ⟨xs, m, _, _, hl, hxs, hf⟩ := DataW.trod_struct Tryz.underlying24 h
  rw [cells24] at hl
  have hxs2 : xs.length = 2 := hxs
  have g0 : DataW.trod enc Tryz.prog w base spare held m 9 ((cs.drop 0).take (Tryz.prog.cellsOf 9)) = xs[0]? := hf 0 _ rfl
  have g1 : DataW.trod enc Tryz.prog w base spare held m 9 ((cs.drop 1).take (Tryz.prog.cellsOf 9)) = xs[1]? := hf 1 _ rfl
  clear hf hxs h
  obtain ⟨v0, v1, rfl⟩ := two_of hl
  obtain ⟨y0, y1, rfl⟩ := two_of hxs2
  rw [cells9] at g0 g1
  obtain ⟨s0, e0, _⟩ := DataW.trod_string und9 (show _ = some y0 from g0)
  obtain ⟨s1, e1, _⟩ := DataW.trod_string und9 (show _ = some y1 from g1)
  have e0' : [v0] = [Value.string s0] := e0
  have e1' : [v1] = [Value.string s1] := e1
  injection e0' with e0'
  injection e1' with e1'
  subst e0' e1'
  exact ⟨⟨s0, s1⟩, rfl⟩
set_option maxRecDepth 100000 in
theorem open_need (h : DataW.trod enc Tryz.prog w base spare held n 49 cs = some y) : ∃ x : S49, cs = [.string x.f0.f0, .string x.f0.f1, .string x.f1.f0, .string x.f1.f1] := by
  obtain ⟨xs, m, _, _, hl, hxs, hf⟩ := DataW.trod_struct Tryz.underlying49 h
  rw [cells49] at hl
  have hxs2 : xs.length = 2 := hxs
  have g0 : DataW.trod enc Tryz.prog w base spare held m 24 ((cs.drop 0).take (Tryz.prog.cellsOf 24)) = xs[0]? := hf 0 _ rfl
  have g1 : DataW.trod enc Tryz.prog w base spare held m 24 ((cs.drop 2).take (Tryz.prog.cellsOf 24)) = xs[1]? := hf 1 _ rfl
  clear hf hxs h
  obtain ⟨v0, v1, v2, v3, rfl⟩ := four_of hl
  obtain ⟨y0, y1, rfl⟩ := two_of hxs2
  rw [cells24] at g0 g1
  obtain ⟨x0, e0⟩ := open_node (show _ = some y0 from g0)
  obtain ⟨x1, e1⟩ := open_node (show _ = some y1 from g1)
  have e0' : [v0, v1] = [Value.string x0.f0, Value.string x0.f1] := e0
  have e1' : [v2, v3] = [Value.string x1.f0, Value.string x1.f1] := e1
  injection e0' with e2 e3
  injection e3 with e3
  injection e1' with e4 e5
  injection e5 with e5
  subst e2 e3 e4 e5
  exact ⟨⟨x0, x1⟩, rfl⟩
theorem C_of_trod {α : Type} (d : Kd α) (encE : α → List Value) {t e : TypeId} (ht : Tryz.prog.underlying t = some (.slice e)) (hc : Tryz.prog.cellsOf e = d.sz) (hK : ∀ w x, d.K w x (encE x))
    (ho : ∀ (n : Nat) (cs : List Value) (y : DataW H × List MemPlace), DataW.trod enc Tryz.prog w base spare held n e cs = some y → ∃ x, cs = encE x)
    {A : Option Addr} {len cap : Nat} {dd : DataW H} {ps : List MemPlace} (h : DataW.Trod enc Tryz.prog w base spare held t (.slice A len cap) dd ps) : ∃ l : List α, l.length = len ∧ len ≤ cap ∧ d.C w A len l := by
  obtain ⟨fuel, hf⟩ := h
  rcases Go.Deep.open_slice ht hf with ⟨hcs, _⟩ | ⟨a, len', cap', m, n, D, Pl, hcs, hb, hl, hm, hmm, _, hx⟩
  · simp [Value.cells] at hcs
    obtain ⟨rfl, rfl, rfl⟩ := hcs
    exact ⟨[], rfl, Nat.le_refl _, rfl, by omega, fun h => by omega⟩
  · simp [Value.cells] at hcs
    obtain ⟨rfl, rfl, rfl⟩ := hcs
    have hlm : len ≤ m := by rw [hmm]; split <;> omega
    have hx' : ∀ i, i < len → ∃ x : α, ∀ j u, (encE x)[j]? = some u → w.cell? (a.add (i * d.sz + j)) = some u := by
      intro i hi
      obtain ⟨cs', h1, h2⟩ := hx i (by omega)
      obtain ⟨x, rfl⟩ := ho _ _ _ h2
      refine ⟨x, fun j u hu => ?_⟩
      obtain ⟨_, hlen, hcell⟩ := World.cells?_some h1
      have hj : j < (encE x).length := (List.getElem?_eq_some_iff.1 hu).1
      have := hcell j (by omega)
      rw [Go.Deep.add_add, hc] at this
      rw [this]
      exact hu
    have hex : ∃ l : List α, l.length = len ∧ ∀ i x, l[i]? = some x → ∀ j u, (encE x)[j]? = some u → w.cell? (a.add (i * d.sz + j)) = some u := by
      have : ∀ k, k ≤ len → ∃ l : List α, l.length = k ∧ ∀ i x, l[i]? = some x → ∀ j u, (encE x)[j]? = some u → w.cell? (a.add (i * d.sz + j)) = some u := by
        intro k
        induction k with
        | zero => intro _; exact ⟨[], rfl, fun i x h => by simp at h⟩
        | succ k ih =>
          intro hk
          obtain ⟨l, e1, e2⟩ := ih (by omega)
          obtain ⟨x, hx2⟩ := hx' k (by omega)
          refine ⟨l ++ [x], by simp [e1], fun i z hz => ?_⟩
          by_cases hi : i < l.length
          · rw [List.getElem?_append_left hi] at hz
            exact e2 i z hz
          · rw [List.getElem?_append_right (by omega)] at hz
            have hi0 : i - l.length = 0 := by
              have := (List.getElem?_eq_some_iff.1 hz).1
              simp at this
              omega
            rw [hi0] at hz
            simp at hz
            subst hz
            have : i = k := by omega
            rw [this]
            exact hx2
      exact this len (Nat.le_refl _)
    obtain ⟨l, e1, e2⟩ := hex
    refine ⟨l, e1, hl, e1, by unfold maxLen at hm; omega, fun _ => ⟨a, rfl, fun j p hj => ⟨encE p, d.K_len (hK w p), hK w p, e2 j p hj⟩⟩⟩
set_option maxRecDepth 100000 in
theorem C_needs {A : Option Addr} {len cap : Nat} {dd : DataW H} {ps : List MemPlace} (h : DataW.Trod enc Tryz.prog w base spare held 22 (.slice A len cap) dd ps) : ∃ l : List S49, l.length = len ∧ len ≤ cap ∧ Kd.C k49 w A len l :=
  C_of_trod k49 (fun x => [.string x.f0.f0, .string x.f0.f1, .string x.f1.f0, .string x.f1.f1]) Tryz.underlying22 cells49 (fun w x => k49.K_of_M (k49_mkM w 0 (fun _ => True) x)) (fun n cs y h => open_need h) h
end
end Go.Proofs.YtjfcmkddeglghaaGreatDoor.G
end
