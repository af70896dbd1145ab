/- For every list of needs WhyDepths returns true, as the card says: how far a node is away is how long its chain is; what the root needs is 1 away; no need leads more than one further. Condition: when the call begins, utf8.acceptRanges and utf8.first hold what Go's own text lays. (part 2 of its proof) -/
import Derived.Test.YtjfcmkddeglghaaGreatDoorKb1
section
namespace Go.Proofs.YtjfcmkddeglghaaGreatDoor.G
open Go.RowKit Go.Proofs.YtjfcmkddeglghaaGreatDoorW.PrintWords Go.Proofs.YtjfcmkddeglghaaGreatDoorW.PrintLast Go.Proofs.YtjfcmkddeglghaaGreatDoorW.PrintMore
attribute [local go_sem] max2_int min2_int max_two min_two max_three min_three max_four min_four
set_option linter.unusedVariables false
set_option linter.unusedSimpArgs false
def r02_May.l0 : Nat → ByteArray → Int → Option (Bool)
 | 0, _, _ => none
 | k + 1, x0, x3 => if x3 < (x0.size : Int) then (if 0 ≤ x3 then ((r02_digit.f (bt x0 x3)).bind fun t242 => (if t242 < 0 then (some false) else (r02_May.l0 k x0 (wrap64 (x3 + 1))))) else (none)) else (if (x0.size : Int) = 1 then (some true) else (if (x0.size : Int) > 1 then (if 0 < (x0.size : Int) then (some ((bt x0 0) != 48)) else (none)) else (some false)))
def r02_May.f (k : Nat) (a0 : ByteArray) : Option (Bool) := r02_May.l0 k a0 0
set_option maxHeartbeats 8000000 in
set_option maxRecDepth 100000 in
theorem r02_May.calls (k : Nat) (a0 : ByteArray) (r : Bool) (w : World) (h : r02_May.f k a0 = some r) :
  Calls Tryz.prog 151 #[.string a0] w fun e w' => e = .returned (.bool r) ∧ Drawn0 w w' := by
 have H : (r02_May.l0 k a0 0) = some r := h
 clear h
 have H' := Aside0.mk H
 clear H
 go_enter Tryz.func151, Tryz.ntmps151
 go_wp2
 go_loopg [3] k (fun kq v3 w' => ∃ (x3_1 : Int), v3 = .int .i64 x3_1 ∧ Aside0 (r02_May.l0 kq a0 x3_1 = some r) ∧ Aside0 (kq ≤ k) ∧ Drawn0 w w')
 case atStart => exact ⟨(0), (by first | rfl | (simp; done) | (simp [*]; done)), H', ⟨Nat.le_refl _⟩, by repeat (first | exact Drawn0.refl _ | apply Drawn0.step)⟩
 case round =>
  clear H'
  try clear c1
  obtain ⟨x3_1, rfl, HA, HK1, ⟨m1, rfl⟩⟩ := hrel
  cases gk with
  | zero => exact absurd HA.out (by simp [r02_May.l0])
  | succ k1 =>
   have H := HA.out
   clear HA
   simp only [r02_May.l0] at H
   by_cases c2 : x3_1 < (a0.size : Int)
   ·rw [if_pos c2] at H
    have c2b0 : decide (x3_1 < (a0.size : Int)) = true := decide_eq_true c2
    clear c2
    by_cases c3 : 0 ≤ x3_1
    ·rw [if_pos c3] at H
     have c3b0 : decide (0 ≤ x3_1) = true := decide_eq_true c3
     clear c3
     obtain ⟨t242, A5, H⟩ := bo H
     by_cases c6 : t242 < 0
     ·rw [if_pos c6] at H
      have c6b0 : decide (t242 < 0) = true := decide_eq_true c6
      clear c6
      obtain rfl := Option.some.inj H
      have p4 : 0 ≤ (x3_1 : Int) := of_decide_eq_true (by first | (with_reducible assumption) | assumption)
      have q4 : x3_1 < (a0.size : Int) := of_decide_eq_true (by first | (with_reducible assumption) | assumption)
      have hx4 := bt_at a0 x3_1
      replace p4 := eq_true p4
      replace q4 := eq_true q4
      go_wp2_with (first | ((with_reducible refine gate_callee (f := 175) rfl ?_); refine gl 13 Tryz.func175 #[.int .u8 (bt a0 x3_1)] ?_; (with_reducible refine (r02_digit.calls (bt a0 x3_1) t242 _ A5.out).mono ?_); rintro e w' ⟨rfl, ⟨nd, rfl⟩⟩; refine ⟨_, rfl, ?_⟩))
      go_ret
      exact ⟨by first | rfl | (simp; done) | (simp [*]; done), by repeat (first | exact Drawn0.refl _ | apply Drawn0.step)⟩
     ·rw [if_neg c6] at H
      have c6b0 : decide (t242 < 0) = false := decide_eq_false c6
      clear c6
      have H' := Aside0.mk H
      clear H
      have p4 : 0 ≤ (x3_1 : Int) := of_decide_eq_true (by first | (with_reducible assumption) | assumption)
      have q4 : x3_1 < (a0.size : Int) := of_decide_eq_true (by first | (with_reducible assumption) | assumption)
      have hx4 := bt_at a0 x3_1
      replace p4 := eq_true p4
      replace q4 := eq_true q4
      go_wp2_with (first | ((with_reducible refine gate_callee (f := 175) rfl ?_); refine gl 13 Tryz.func175 #[.int .u8 (bt a0 x3_1)] ?_; (with_reducible refine (r02_digit.calls (bt a0 x3_1) t242 _ A5.out).mono ?_); rintro e w' ⟨rfl, ⟨nd, rfl⟩⟩; refine ⟨_, rfl, ?_⟩))
      go_roundg k1
      case measure => have := HK1.out; omega
      case rel => exact ⟨(wrap64 (x3_1 + 1)), (by first | rfl | (simp; done) | (simp [*]; done)), H', ⟨by have := HK1.out; omega⟩, by repeat (first | exact Drawn0.refl _ | apply Drawn0.step)⟩
    ·rw [if_neg c3] at H
     exact absurd H (by simp)
   ·rw [if_neg c2] at H
    have c2b0 : decide (x3_1 < (a0.size : Int)) = false := decide_eq_false c2
    clear c2
    by_cases c7 : (a0.size : Int) = 1
    ·rw [if_pos c7] at H
     have c7b0 := beq_iff_eq.mpr c7
     have c7b1 := bne_eq_false_iff_eq.mpr c7
     clear c7
     obtain rfl := Option.some.inj H
     go_wp2
     go_ret
     exact ⟨by first | rfl | (simp; done) | (simp [*]; done), by repeat (first | exact Drawn0.refl _ | apply Drawn0.step)⟩
    ·rw [if_neg c7] at H
     have c7b0 := beq_eq_false_iff_ne.mpr c7
     have c7b1 := bne_iff_ne.mpr c7
     by_cases c8 : (a0.size : Int) > 1
     ·rw [if_pos c8] at H
      have c8b0 : decide (1 < (a0.size : Int)) = true := decide_eq_true c8
      have c8b1 : decide (1 < a0.size) = true := decide_eq_true (by omega)
      clear c8
      by_cases c9 : 0 < (a0.size : Int)
      ·rw [if_pos c9] at H
       have c9b0 : decide (0 < (a0.size : Int)) = true := decide_eq_true c9
       have c9b1 : decide (0 < a0.size) = true := decide_eq_true (by omega)
       clear c9
       obtain rfl := Option.some.inj H
       have p10 : 0 ≤ (0 : Int) := (by omega)
       have q10 : 0 < a0.size := (by have : (0 : Int) < (a0.size : Int) := of_decide_eq_true (by first | (with_reducible assumption) | assumption); omega)
       have hx10 : ∀ h : 0 < a0.size, ((a0[0]'h).toNat : Int) = bt a0 0 := bt_at a0 0
       clear p10
       have qi10 : (0 < (a0.size : Int)) = True := eq_true (of_decide_eq_true (by first | (with_reducible assumption) | assumption))
       replace q10 := eq_true q10
       go_wp2
       go_ret
       exact ⟨by first | rfl | (simp; done) | (simp [*]; done), by repeat (first | exact Drawn0.refl _ | apply Drawn0.step)⟩
      ·rw [if_neg c9] at H
       exact absurd H (by simp)
     ·rw [if_neg c8] at H
      have c8b0 : decide (1 < (a0.size : Int)) = false := decide_eq_false c8
      have c8b1 : decide (1 < a0.size) = false := decide_eq_false (by omega)
      clear c8
      obtain rfl := Option.some.inj H
      go_wp2
      go_ret
      exact ⟨by first | rfl | (simp; done) | (simp [*]; done), by repeat (first | exact Drawn0.refl _ | apply Drawn0.step)⟩
end Go.Proofs.YtjfcmkddeglghaaGreatDoor.G
end
section
namespace Go.Proofs.YtjfcmkddeglghaaGreatDoor.G
open Go.RowKit Go.Proofs.YtjfcmkddeglghaaGreatDoorW.PrintWords Go.Proofs.YtjfcmkddeglghaaGreatDoorW.PrintLast Go.Proofs.YtjfcmkddeglghaaGreatDoorW.PrintMore
attribute [local go_sem] max2_int min2_int max_two min_two max_three min_three max_four min_four
set_option linter.unusedVariables false
set_option linter.unusedSimpArgs false
mutual
def r01_Class.j0 : Nat → Int → Bool → Option (Int)
 | 0, _, _ => none
 | k + 1, x3, x11 => if x11 = true then (some 1) else (if x3 ≥ 65 then (if x3 ≤ 90 then (r01_Class.j1 k x3 true) else (if x3 ≥ 97 then (r01_Class.j1 k x3 (decide (x3 ≤ 122))) else (r01_Class.j1 k x3 false))) else (if x3 ≥ 97 then (r01_Class.j1 k x3 (decide (x3 ≤ 122))) else (r01_Class.j1 k x3 false)))
def r01_Class.j1 : Nat → Int → Bool → Option (Int)
 | 0, _, _ => none
 | k + 1, x3, x25 => if x25 = true then (some 2) else (if x3 = 45 then (r01_Class.j2 k x3 true) else (if x3 = 46 then (r01_Class.j2 k x3 true) else (if x3 = 95 then (r01_Class.j2 k x3 true) else (r01_Class.j2 k x3 (x3 == 126)))))
def r01_Class.j2 : Nat → Int → Bool → Option (Int)
 | 0, _, _ => none
 | k + 1, x3, x39 => if x39 = true then (some 3) else (if x3 = 47 then (some 4) else (if x3 = 32 then (r01_Class.j3 k x3 (x3 == 32)) else (r01_Class.j3 k x3 (x3 == 9))))
def r01_Class.j3 : Nat → Int → Bool → Option (Int)
 | 0, _, _ => none
 | k + 1, x40, x43 => if x43 = true then (some 5) else (if x40 = 10 then (some 6) else (if x40 = 34 then (some 7) else (if x40 = 40 then (some 8) else (if x40 = 41 then (some 9) else (some 0)))))
end
def r01_Class.f (k : Nat) (a0 : Int) : Option (Int) := if (wrap64 (a0)) ≥ 48 then (r01_Class.j0 k (wrap64 (a0)) (decide ((wrap64 (a0)) ≤ 57))) else (r01_Class.j0 k (wrap64 (a0)) false)
theorem r01_Class.mono_l : ∀ k, (∀ y0 y1, LeO (r01_Class.j0 k y0 y1) (r01_Class.j0 (k + 1) y0 y1)) ∧ (∀ y0 y1, LeO (r01_Class.j1 k y0 y1) (r01_Class.j1 (k + 1) y0 y1)) ∧ (∀ y0 y1, LeO (r01_Class.j2 k y0 y1) (r01_Class.j2 (k + 1) y0 y1)) ∧ (∀ y0 y1, LeO (r01_Class.j3 k y0 y1) (r01_Class.j3 (k + 1) y0 y1))
 | 0 => ⟨fun _ _ r h => by simp [r01_Class.j0] at h, fun _ _ r h => by simp [r01_Class.j1] at h, fun _ _ r h => by simp [r01_Class.j2] at h, fun _ _ r h => by simp [r01_Class.j3] at h⟩
 | k + 1 => by
  obtain ⟨ih0, ih1, ih2, ih3⟩ := r01_Class.mono_l k
  refine ⟨?_, ?_, ?_, ?_⟩
  ·intro y0 y1
   unfold r01_Class.j0
   repeat' first
   | (with_reducible exact ih0 _ _)
   | (with_reducible exact ih1 _ _)
   | (with_reducible exact ih2 _ _)
   | (with_reducible exact ih3 _ _)
   | (with_reducible exact LeO.refl _)
   | (with_reducible exact LeO.none _)
   | (with_reducible refine LeO.ite ?_ ?_)
   | (with_reducible refine LeO.bind ?_ (fun _ => ?_))
   | exact ih0 _ _
   | exact ih1 _ _
   | exact ih2 _ _
   | exact ih3 _ _
   | exact LeO.none _
   | refine LeO.ite ?_ ?_
   | refine LeO.bind ?_ (fun _ => ?_)
  ·intro y0 y1
   unfold r01_Class.j1
   repeat' first
   | (with_reducible exact ih0 _ _)
   | (with_reducible exact ih1 _ _)
   | (with_reducible exact ih2 _ _)
   | (with_reducible exact ih3 _ _)
   | (with_reducible exact LeO.refl _)
   | (with_reducible exact LeO.none _)
   | (with_reducible refine LeO.ite ?_ ?_)
   | (with_reducible refine LeO.bind ?_ (fun _ => ?_))
   | exact ih0 _ _
   | exact ih1 _ _
   | exact ih2 _ _
   | exact ih3 _ _
   | exact LeO.none _
   | refine LeO.ite ?_ ?_
   | refine LeO.bind ?_ (fun _ => ?_)
  ·intro y0 y1
   unfold r01_Class.j2
   repeat' first
   | (with_reducible exact ih0 _ _)
   | (with_reducible exact ih1 _ _)
   | (with_reducible exact ih2 _ _)
   | (with_reducible exact ih3 _ _)
   | (with_reducible exact LeO.refl _)
   | (with_reducible exact LeO.none _)
   | (with_reducible refine LeO.ite ?_ ?_)
   | (with_reducible refine LeO.bind ?_ (fun _ => ?_))
   | exact ih0 _ _
   | exact ih1 _ _
   | exact ih2 _ _
   | exact ih3 _ _
   | exact LeO.none _
   | refine LeO.ite ?_ ?_
   | refine LeO.bind ?_ (fun _ => ?_)
  ·intro y0 y1
   unfold r01_Class.j3
   repeat' first
   | (with_reducible exact ih0 _ _)
   | (with_reducible exact ih1 _ _)
   | (with_reducible exact ih2 _ _)
   | (with_reducible exact ih3 _ _)
   | (with_reducible exact LeO.refl _)
   | (with_reducible exact LeO.none _)
   | (with_reducible refine LeO.ite ?_ ?_)
   | (with_reducible refine LeO.bind ?_ (fun _ => ?_))
   | exact ih0 _ _
   | exact ih1 _ _
   | exact ih2 _ _
   | exact ih3 _ _
   | exact LeO.none _
   | refine LeO.ite ?_ ?_
   | refine LeO.bind ?_ (fun _ => ?_)
theorem r01_Class.mono : ∀ a0 k, LeO (r01_Class.f k a0) (r01_Class.f (k + 1) a0) := by
 intro a0 k
 obtain ⟨ih0, ih1, ih2, ih3⟩ := r01_Class.mono_l k
 unfold r01_Class.f
 repeat' first
   | (with_reducible exact ih0 _ _)
   | (with_reducible exact ih1 _ _)
   | (with_reducible exact ih2 _ _)
   | (with_reducible exact ih3 _ _)
   | (with_reducible exact LeO.refl _)
   | (with_reducible exact LeO.none _)
   | (with_reducible refine LeO.ite ?_ ?_)
   | (with_reducible refine LeO.bind ?_ (fun _ => ?_))
   | exact ih0 _ _
   | exact ih1 _ _
   | exact ih2 _ _
   | exact ih3 _ _
   | exact LeO.none _
   | refine LeO.ite ?_ ?_
   | refine LeO.bind ?_ (fun _ => ?_)
set_option maxHeartbeats 8000000 in
set_option maxRecDepth 100000 in
theorem r01_Class.calls (k : Nat) (a0 : Int) (r : Int) (w : World) (h : r01_Class.f k a0 = some r) :
  Calls Tryz.prog 134 #[.int .u8 a0] w fun e w' => e = .returned (.int .i64 r) ∧ Drawn0 w w' := by
 have H : (if (wrap64 (a0)) ≥ 48 then (r01_Class.j0 k (wrap64 (a0)) (decide ((wrap64 (a0)) ≤ 57))) else (r01_Class.j0 k (wrap64 (a0)) false)) = some r := h
 clear h
 have HC2 := Aside0.mk H
 clear H
 go_enter Tryz.func134, Tryz.ntmps134
 go_upto_region 2 with (fail)
 go_cut [11] (fun v11 wc => ∃ (kq : Nat) (x11_1 : Bool), v11 = .bool x11_1 ∧ Aside0 (r01_Class.j0 kq (wrap64 (a0)) x11_1 = some r) ∧ Aside0 (kq ≤ k) ∧ Drawn0 w wc)
 case first =>
  have H := HC2.out
  clear HC2
  by_cases c3 : (wrap64 (a0)) ≥ 48
  ·rw [if_pos c3] at H
   have c3b0 : decide (48 ≤ (wrap64 (a0))) = true := decide_eq_true c3
   clear c3
   (first | rw [c3b0] | (simp only [i64_w, i32_w]; rw [c3b0]) | skip)
   have H' := Aside0.mk H
   clear H
   go_wp2
   go_meet
   case rel => exact ⟨_, (decide ((wrap64 (a0)) ≤ 57)), (by first | rfl | (simp; done) | (simp [*]; done)), H', ⟨by first | omega | exact Nat.le_refl _⟩, by repeat (first | exact Drawn0.refl _ | apply Drawn0.step)⟩
  ·rw [if_neg c3] at H
   have c3b0 : decide (48 ≤ (wrap64 (a0))) = false := decide_eq_false c3
   clear c3
   (first | rw [c3b0] | (simp only [i64_w, i32_w]; rw [c3b0]) | skip)
   have H' := Aside0.mk H
   clear H
   go_wp2
   go_meet
   case rel => exact ⟨_, (false), (by first | rfl | (simp; done) | (simp [*]; done)), H', ⟨by first | omega | exact Nat.le_refl _⟩, by repeat (first | exact Drawn0.refl _ | apply Drawn0.step)⟩
 case rest =>
  clear HC2
  try clear c1
  try clear p2
  try clear c3
  try clear c3b0
  obtain ⟨kq, x11_1, rfl, HA, HJ1, ⟨mc1, rfl⟩⟩ := hcut
  cases kq with
  | zero => exact absurd HA.out (by simp [r01_Class.j0])
  | succ kj1 =>
   have H := HA.out
   clear HA
   simp only [r01_Class.j0] at H
   by_cases c4 : x11_1 = true
   ·subst c4
    replace H := it H
    obtain rfl := Option.some.inj H
    go_wp2
    go_ret
    exact ⟨by first | rfl | (simp; done) | (simp [*]; done), by repeat (first | exact Drawn0.refl _ | apply Drawn0.step)⟩
   ·replace c4 := Bool.eq_false_iff.mpr c4
    subst c4
    replace H := jf H
    have HC5 := Aside0.mk H
    clear H
    go_upto_region 4 with (fail)
    go_cut [25] (fun v25 wc => ∃ (kq : Nat) (x25_4 : Bool), v25 = .bool x25_4 ∧ Aside0 (r01_Class.j1 kq (wrap64 (a0)) x25_4 = some r) ∧ Aside0 (kq ≤ kj1) ∧ Drawn0 w wc)
    case first =>
     have H := HC5.out
     clear HC5
     by_cases c6 : (wrap64 (a0)) ≥ 65
     ·rw [if_pos c6] at H
      have c6b0 : decide (65 ≤ (wrap64 (a0))) = true := decide_eq_true c6
      clear c6
      (first | rw [c6b0] | (simp only [i64_w, i32_w]; rw [c6b0]) | skip)
      by_cases c7 : (wrap64 (a0)) ≤ 90
      ·rw [if_pos c7] at H
       have c7b0 : decide ((wrap64 (a0)) ≤ 90) = true := decide_eq_true c7
       clear c7
       have H' := Aside0.mk H
       clear H
       go_wp2
       go_meet
       case rel => exact ⟨_, (true), (by first | rfl | (simp; done) | (simp [*]; done)), H', ⟨by have := HJ1.out; first | omega | exact Nat.le_refl _⟩, by repeat (first | exact Drawn0.refl _ | apply Drawn0.step)⟩
      ·rw [if_neg c7] at H
       have c7b0 : decide ((wrap64 (a0)) ≤ 90) = false := decide_eq_false c7
       clear c7
       by_cases c8 : (wrap64 (a0)) ≥ 97
       ·rw [if_pos c8] at H
        have c8b0 : decide (97 ≤ (wrap64 (a0))) = true := decide_eq_true c8
        clear c8
        have H' := Aside0.mk H
        clear H
        go_wp2
        go_meet
        case rel => exact ⟨_, (decide ((wrap64 (a0)) ≤ 122)), (by first | rfl | (simp; done) | (simp [*]; done)), H', ⟨by have := HJ1.out; first | omega | exact Nat.le_refl _⟩, by repeat (first | exact Drawn0.refl _ | apply Drawn0.step)⟩
       ·rw [if_neg c8] at H
        have c8b0 : decide (97 ≤ (wrap64 (a0))) = false := decide_eq_false c8
        clear c8
        have H' := Aside0.mk H
        clear H
        go_wp2
        go_meet
        case rel => exact ⟨_, (false), (by first | rfl | (simp; done) | (simp [*]; done)), H', ⟨by have := HJ1.out; first | omega | exact Nat.le_refl _⟩, by repeat (first | exact Drawn0.refl _ | apply Drawn0.step)⟩
     ·rw [if_neg c6] at H
      have c6b0 : decide (65 ≤ (wrap64 (a0))) = false := decide_eq_false c6
      clear c6
      (first | rw [c6b0] | (simp only [i64_w, i32_w]; rw [c6b0]) | skip)
      by_cases c9 : (wrap64 (a0)) ≥ 97
      ·rw [if_pos c9] at H
       have c9b0 : decide (97 ≤ (wrap64 (a0))) = true := decide_eq_true c9
       clear c9
       have H' := Aside0.mk H
       clear H
       go_wp2
       go_meet
       case rel => exact ⟨_, (decide ((wrap64 (a0)) ≤ 122)), (by first | rfl | (simp; done) | (simp [*]; done)), H', ⟨by have := HJ1.out; first | omega | exact Nat.le_refl _⟩, by repeat (first | exact Drawn0.refl _ | apply Drawn0.step)⟩
      ·rw [if_neg c9] at H
       have c9b0 : decide (97 ≤ (wrap64 (a0))) = false := decide_eq_false c9
       clear c9
       have H' := Aside0.mk H
       clear H
       go_wp2
       go_meet
       case rel => exact ⟨_, (false), (by first | rfl | (simp; done) | (simp [*]; done)), H', ⟨by have := HJ1.out; first | omega | exact Nat.le_refl _⟩, by repeat (first | exact Drawn0.refl _ | apply Drawn0.step)⟩
    case rest =>
     clear HC5
     try clear c1
     try clear p2
     try clear c3
     try clear c3b0
     try clear c4
     try clear c6
     try clear c6b0
     try clear p6
     try clear c7
     try clear c7b0
     try clear c8
     try clear c8b0
     try clear c9
     try clear c9b0
     try clear p2
     obtain ⟨kq, x25_4, rfl, HA, HJ4, ⟨mc4, rfl⟩⟩ := hcut
     cases kq with
     | zero => exact absurd HA.out (by simp [r01_Class.j1])
     | succ kj4 =>
      have H := HA.out
      clear HA
      simp only [r01_Class.j1] at H
      by_cases c10 : x25_4 = true
      ·subst c10
       replace H := it H
       obtain rfl := Option.some.inj H
       go_wp2
       go_ret
       exact ⟨by first | rfl | (simp; done) | (simp [*]; done), by repeat (first | exact Drawn0.refl _ | apply Drawn0.step)⟩
      ·replace c10 := Bool.eq_false_iff.mpr c10
       subst c10
       replace H := jf H
       have HC11 := Aside0.mk H
       clear H
       go_upto_region 6 with (fail)
       go_cut [39] (fun v39 wc => ∃ (kq : Nat) (x39_10 : Bool), v39 = .bool x39_10 ∧ Aside0 (r01_Class.j2 kq (wrap64 (a0)) x39_10 = some r) ∧ Aside0 (kq ≤ kj4) ∧ Drawn0 w wc)
       case first =>
        have H := HC11.out
        clear HC11
        by_cases c12 : (wrap64 (a0)) = 45
        ·rw [if_pos c12] at H
         have c12b0 := beq_iff_eq.mpr c12
         have c12b1 := bne_eq_false_iff_eq.mpr c12
         clear c12
         (first | rw [c12b0] | (simp only [i64_w, i32_w]; rw [c12b0]) | skip)
         have H' := Aside0.mk H
         clear H
         go_wp2
         go_meet
         case rel => exact ⟨_, (true), (by first | rfl | (simp; done) | (simp [*]; done)), H', ⟨by have := HJ1.out; have := HJ4.out; first | omega | exact Nat.le_refl _⟩, by repeat (first | exact Drawn0.refl _ | apply Drawn0.step)⟩
        ·rw [if_neg c12] at H
         have c12b0 := beq_eq_false_iff_ne.mpr c12
         have c12b1 := bne_iff_ne.mpr c12
         (first | rw [c12b0] | (simp only [i64_w, i32_w]; rw [c12b0]) | skip)
         by_cases c13 : (wrap64 (a0)) = 46
         ·rw [if_pos c13] at H
          have c13b0 := beq_iff_eq.mpr c13
          have c13b1 := bne_eq_false_iff_eq.mpr c13
          clear c13
          have H' := Aside0.mk H
          clear H
          go_wp2
          go_meet
          case rel => exact ⟨_, (true), (by first | rfl | (simp; done) | (simp [*]; done)), H', ⟨by have := HJ1.out; have := HJ4.out; first | omega | exact Nat.le_refl _⟩, by repeat (first | exact Drawn0.refl _ | apply Drawn0.step)⟩
         ·rw [if_neg c13] at H
          have c13b0 := beq_eq_false_iff_ne.mpr c13
          have c13b1 := bne_iff_ne.mpr c13
          by_cases c14 : (wrap64 (a0)) = 95
          ·rw [if_pos c14] at H
           have c14b0 := beq_iff_eq.mpr c14
           have c14b1 := bne_eq_false_iff_eq.mpr c14
           clear c14
           have H' := Aside0.mk H
           clear H
           go_wp2
           go_meet
           case rel => exact ⟨_, (true), (by first | rfl | (simp; done) | (simp [*]; done)), H', ⟨by have := HJ1.out; have := HJ4.out; first | omega | exact Nat.le_refl _⟩, by repeat (first | exact Drawn0.refl _ | apply Drawn0.step)⟩
          ·rw [if_neg c14] at H
           have c14b0 := beq_eq_false_iff_ne.mpr c14
           have c14b1 := bne_iff_ne.mpr c14
           have H' := Aside0.mk H
           clear H
           go_wp2
           go_meet
           case rel => exact ⟨_, (((wrap64 (a0)) == 126)), (by first | rfl | (simp; done) | (simp [*]; done)), H', ⟨by have := HJ1.out; have := HJ4.out; first | omega | exact Nat.le_refl _⟩, by repeat (first | exact Drawn0.refl _ | apply Drawn0.step)⟩
       case rest =>
        clear HC11
        try clear c1
        try clear p2
        try clear c3
        try clear c3b0
        try clear c4
        try clear c6
        try clear c6b0
        try clear p6
        try clear c7
        try clear c7b0
        try clear c8
        try clear c8b0
        try clear c9
        try clear c9b0
        try clear c10
        try clear c12
        try clear c12b0
        try clear c12b1
        try clear c13
        try clear c13b0
        try clear c13b1
        try clear c14
        try clear c14b0
        try clear c14b1
        try clear p2
        try clear p6
        obtain ⟨kq, x39_10, rfl, HA, HJ10, ⟨mc10, rfl⟩⟩ := hcut
        cases kq with
        | zero => exact absurd HA.out (by simp [r01_Class.j2])
        | succ kj10 =>
         have H := HA.out
         clear HA
         simp only [r01_Class.j2] at H
         by_cases c15 : x39_10 = true
         ·subst c15
          replace H := it H
          obtain rfl := Option.some.inj H
          go_wp2
          go_ret
          exact ⟨by first | rfl | (simp; done) | (simp [*]; done), by repeat (first | exact Drawn0.refl _ | apply Drawn0.step)⟩
         ·replace c15 := Bool.eq_false_iff.mpr c15
          subst c15
          replace H := jf H
          by_cases c16 : (wrap64 (a0)) = 47
          ·rw [if_pos c16] at H
           have c16b0 := beq_iff_eq.mpr c16
           have c16b1 := bne_eq_false_iff_eq.mpr c16
           clear c16
           obtain rfl := Option.some.inj H
           go_wp2
           go_ret
           exact ⟨by first | rfl | (simp; done) | (simp [*]; done), by repeat (first | exact Drawn0.refl _ | apply Drawn0.step)⟩
          ·rw [if_neg c16] at H
           have c16b0 := beq_eq_false_iff_ne.mpr c16
           have c16b1 := bne_iff_ne.mpr c16
           have HC17 := Aside0.mk H
           clear H
           go_upto_if 43 with (fail)
           go_cut [43] (fun v43 wc => ∃ (kq : Nat) (x43_16 : Bool), v43 = .bool x43_16 ∧ Aside0 (r01_Class.j3 kq (wrap64 (a0)) x43_16 = some r) ∧ Aside0 (kq ≤ kj10) ∧ Drawn0 w wc)
           case first =>
            have H := HC17.out
            clear HC17
            by_cases c18 : (wrap64 (a0)) = 32
            ·rw [if_pos c18] at H
             have c18b0 := beq_iff_eq.mpr c18
             have c18b1 := bne_eq_false_iff_eq.mpr c18
             clear c18
             (first | rw [c18b0] | (simp only [i64_w, i32_w]; rw [c18b0]) | skip)
             have H' := Aside0.mk H
             clear H
             go_wp2
             go_meet
             case rel => exact ⟨_, (((wrap64 (a0)) == 32)), (by first | rfl | (simp; done) | (simp [*]; done)), H', ⟨by have := HJ1.out; have := HJ4.out; have := HJ10.out; first | omega | exact Nat.le_refl _⟩, by repeat (first | exact Drawn0.refl _ | apply Drawn0.step)⟩
            ·rw [if_neg c18] at H
             have c18b0 := beq_eq_false_iff_ne.mpr c18
             have c18b1 := bne_iff_ne.mpr c18
             (first | rw [c18b0] | (simp only [i64_w, i32_w]; rw [c18b0]) | skip)
             have H' := Aside0.mk H
             clear H
             go_wp2
             go_meet
             case rel => exact ⟨_, (((wrap64 (a0)) == 9)), (by first | rfl | (simp; done) | (simp [*]; done)), H', ⟨by have := HJ1.out; have := HJ4.out; have := HJ10.out; first | omega | exact Nat.le_refl _⟩, by repeat (first | exact Drawn0.refl _ | apply Drawn0.step)⟩
           case rest =>
            clear HC17
            try clear c1
            try clear p2
            try clear c3
            try clear c3b0
            try clear c4
            try clear c6
            try clear c6b0
            try clear p6
            try clear c7
            try clear c7b0
            try clear c8
            try clear c8b0
            try clear c9
            try clear c9b0
            try clear c10
            try clear c12
            try clear c12b0
            try clear c12b1
            try clear c13
            try clear c13b0
            try clear c13b1
            try clear c14
            try clear c14b0
            try clear c14b1
            try clear c15
            try clear c16
            try clear c16b0
            try clear c16b1
            try clear c18
            try clear c18b0
            try clear c18b1
            try clear p2
            try clear p6
            obtain ⟨kq, x43_16, rfl, HA, HJ16, ⟨mc16, rfl⟩⟩ := hcut
            cases kq with
            | zero => exact absurd HA.out (by simp [r01_Class.j3])
            | succ kj16 =>
             have H := HA.out
             clear HA
             simp only [r01_Class.j3] at H
             by_cases c19 : x43_16 = true
             ·subst c19
              replace H := it H
              obtain rfl := Option.some.inj H
              go_wp2
              go_ret
              exact ⟨by first | rfl | (simp; done) | (simp [*]; done), by repeat (first | exact Drawn0.refl _ | apply Drawn0.step)⟩
             ·replace c19 := Bool.eq_false_iff.mpr c19
              subst c19
              replace H := jf H
              by_cases c20 : (wrap64 (a0)) = 10
              ·rw [if_pos c20] at H
               have c20b0 := beq_iff_eq.mpr c20
               have c20b1 := bne_eq_false_iff_eq.mpr c20
               clear c20
               obtain rfl := Option.some.inj H
               go_wp2
               go_ret
               exact ⟨by first | rfl | (simp; done) | (simp [*]; done), by repeat (first | exact Drawn0.refl _ | apply Drawn0.step)⟩
              ·rw [if_neg c20] at H
               have c20b0 := beq_eq_false_iff_ne.mpr c20
               have c20b1 := bne_iff_ne.mpr c20
               by_cases c21 : (wrap64 (a0)) = 34
               ·rw [if_pos c21] at H
                have c21b0 := beq_iff_eq.mpr c21
                have c21b1 := bne_eq_false_iff_eq.mpr c21
                clear c21
                obtain rfl := Option.some.inj H
                go_wp2
                go_ret
                exact ⟨by first | rfl | (simp; done) | (simp [*]; done), by repeat (first | exact Drawn0.refl _ | apply Drawn0.step)⟩
               ·rw [if_neg c21] at H
                have c21b0 := beq_eq_false_iff_ne.mpr c21
                have c21b1 := bne_iff_ne.mpr c21
                by_cases c22 : (wrap64 (a0)) = 40
                ·rw [if_pos c22] at H
                 have c22b0 := beq_iff_eq.mpr c22
                 have c22b1 := bne_eq_false_iff_eq.mpr c22
                 clear c22
                 obtain rfl := Option.some.inj H
                 go_wp2
                 go_ret
                 exact ⟨by first | rfl | (simp; done) | (simp [*]; done), by repeat (first | exact Drawn0.refl _ | apply Drawn0.step)⟩
                ·rw [if_neg c22] at H
                 have c22b0 := beq_eq_false_iff_ne.mpr c22
                 have c22b1 := bne_iff_ne.mpr c22
                 by_cases c23 : (wrap64 (a0)) = 41
                 ·rw [if_pos c23] at H
                  have c23b0 := beq_iff_eq.mpr c23
                  have c23b1 := bne_eq_false_iff_eq.mpr c23
                  clear c23
                  obtain rfl := Option.some.inj H
                  go_wp2
                  go_ret
                  exact ⟨by first | rfl | (simp; done) | (simp [*]; done), by repeat (first | exact Drawn0.refl _ | apply Drawn0.step)⟩
                 ·rw [if_neg c23] at H
                  have c23b0 := beq_eq_false_iff_ne.mpr c23
                  have c23b1 := bne_iff_ne.mpr c23
                  obtain rfl := Option.some.inj H
                  go_wp2
                  go_ret
                  exact ⟨by first | rfl | (simp; done) | (simp [*]; done), by repeat (first | exact Drawn0.refl _ | apply Drawn0.step)⟩
end Go.Proofs.YtjfcmkddeglghaaGreatDoor.G
end
section
namespace Go.Proofs.YtjfcmkddeglghaaGreatDoor.G
open Go.RowKit Go.Proofs.YtjfcmkddeglghaaGreatDoorW.PrintWords Go.Proofs.YtjfcmkddeglghaaGreatDoorW.PrintLast Go.Proofs.YtjfcmkddeglghaaGreatDoorW.PrintMore
attribute [local go_sem] max2_int min2_int max_two min_two max_three min_three max_four min_four
set_option linter.unusedVariables false
set_option linter.unusedSimpArgs false
def r03_Word.l0 : Nat → ByteArray → Bool → Int → Option (Bool)
 | 0, _, _, _ => none
 | k + 1, x0, x3, x4 => if x4 < (x0.size : Int) then (if 0 ≤ x4 then ((r01_Class.f k (bt x0 x4)).bind fun t244 => (if t244 = 1 then (r03_Word.l0 k x0 x3 (wrap64 (x4 + 1))) else (if t244 = 2 then (r03_Word.l0 k x0 false (wrap64 (x4 + 1))) else (if (bt x0 x4) = 45 then (r03_Word.l0 k x0 false (wrap64 (x4 + 1))) else (some false))))) else (none)) else (if (x0.size : Int) > 0 then (if x3 = true then ((r02_May.f k x0).bind fun t243 => (some t243)) else (some true)) else (some false))
def r03_Word.f (k : Nat) (a0 : ByteArray) : Option (Bool) := r03_Word.l0 k a0 true 0
set_option maxHeartbeats 8000000 in
set_option maxRecDepth 100000 in
theorem r03_Word.calls (k : Nat) (a0 : ByteArray) (r : Bool) (w : World) (h : r03_Word.f k a0 = some r) :
  Calls Tryz.prog 152 #[.string a0] w fun e w' => e = .returned (.bool r) ∧ Drawn0 w w' := by
 have H : (r03_Word.l0 k a0 true 0) = some r := h
 clear h
 have H' := Aside0.mk H
 clear H
 go_enter Tryz.func152, Tryz.ntmps152
 go_wp2
 go_loopg [3, 4] k (fun kq v3 v4 w' => ∃ (x3_1 : Bool) (x4_1 : Int), v3 = .bool x3_1 ∧ v4 = .int .i64 x4_1 ∧ Aside0 (r03_Word.l0 kq a0 x3_1 x4_1 = some r) ∧ Aside0 (kq ≤ k) ∧ Drawn0 w w')
 case atStart => exact ⟨(true), (0), (by first | rfl | (simp; done) | (simp [*]; done)), (by first | rfl | (simp; done) | (simp [*]; done)), H', ⟨Nat.le_refl _⟩, by repeat (first | exact Drawn0.refl _ | apply Drawn0.step)⟩
 case round =>
  clear H'
  try clear c1
  obtain ⟨x3_1, x4_1, rfl, rfl, HA, HK1, ⟨m1, rfl⟩⟩ := hrel
  cases gk with
  | zero => exact absurd HA.out (by simp [r03_Word.l0])
  | succ k1 =>
   have H := HA.out
   clear HA
   simp only [r03_Word.l0] at H
   by_cases c2 : x4_1 < (a0.size : Int)
   ·rw [if_pos c2] at H
    have c2b0 : decide (x4_1 < (a0.size : Int)) = true := decide_eq_true c2
    clear c2
    by_cases c3 : 0 ≤ x4_1
    ·rw [if_pos c3] at H
     have c3b0 : decide (0 ≤ x4_1) = true := decide_eq_true c3
     clear c3
     obtain ⟨t244, A5, H⟩ := bo H
     by_cases c6 : t244 = 1
     ·rw [if_pos c6] at H
      have c6b0 := beq_iff_eq.mpr c6
      have c6b1 := bne_eq_false_iff_eq.mpr c6
      clear c6
      have H' := Aside0.mk H
      clear H
      have p4 : 0 ≤ (x4_1 : Int) := of_decide_eq_true (by first | (with_reducible assumption) | assumption)
      have q4 : x4_1 < (a0.size : Int) := of_decide_eq_true (by first | (with_reducible assumption) | assumption)
      have hx4 := bt_at a0 x4_1
      replace p4 := eq_true p4
      replace q4 := eq_true q4
      go_wp2_with (first | ((with_reducible refine gate_callee (f := 134) rfl ?_); refine gl 15 Tryz.func134 #[.int .u8 (bt a0 x4_1)] ?_; (with_reducible refine (r01_Class.calls k1 (bt a0 x4_1) t244 _ A5.out).mono ?_); rintro e w' ⟨rfl, ⟨nd, rfl⟩⟩; refine ⟨_, rfl, ?_⟩))
      go_roundg k1
      case measure => have := HK1.out; omega
      case rel => exact ⟨(x3_1), (wrap64 (x4_1 + 1)), (by first | rfl | (simp; done) | (simp [*]; done)), (by first | rfl | (simp; done) | (simp [*]; done)), H', ⟨by have := HK1.out; omega⟩, by repeat (first | exact Drawn0.refl _ | apply Drawn0.step)⟩
     ·rw [if_neg c6] at H
      have c6b0 := beq_eq_false_iff_ne.mpr c6
      have c6b1 := bne_iff_ne.mpr c6
      by_cases c7 : t244 = 2
      ·rw [if_pos c7] at H
       have c7b0 := beq_iff_eq.mpr c7
       have c7b1 := bne_eq_false_iff_eq.mpr c7
       clear c7
       have H' := Aside0.mk H
       clear H
       have p4 : 0 ≤ (x4_1 : Int) := of_decide_eq_true (by first | (with_reducible assumption) | assumption)
       have q4 : x4_1 < (a0.size : Int) := of_decide_eq_true (by first | (with_reducible assumption) | assumption)
       have hx4 := bt_at a0 x4_1
       replace p4 := eq_true p4
       replace q4 := eq_true q4
       go_wp2_with (first | ((with_reducible refine gate_callee (f := 134) rfl ?_); refine gl 15 Tryz.func134 #[.int .u8 (bt a0 x4_1)] ?_; (with_reducible refine (r01_Class.calls k1 (bt a0 x4_1) t244 _ A5.out).mono ?_); rintro e w' ⟨rfl, ⟨nd, rfl⟩⟩; refine ⟨_, rfl, ?_⟩))
       go_roundg k1
       case measure => have := HK1.out; omega
       case rel => exact ⟨(false), (wrap64 (x4_1 + 1)), (by first | rfl | (simp; done) | (simp [*]; done)), (by first | rfl | (simp; done) | (simp [*]; done)), H', ⟨by have := HK1.out; omega⟩, by repeat (first | exact Drawn0.refl _ | apply Drawn0.step)⟩
      ·rw [if_neg c7] at H
       have c7b0 := beq_eq_false_iff_ne.mpr c7
       have c7b1 := bne_iff_ne.mpr c7
       by_cases c9 : (bt a0 x4_1) = 45
       ·rw [if_pos c9] at H
        have c9b0 := beq_iff_eq.mpr c9
        have c9b1 := bne_eq_false_iff_eq.mpr c9
        clear c9
        have H' := Aside0.mk H
        clear H
        have p4 : 0 ≤ (x4_1 : Int) := of_decide_eq_true (by first | (with_reducible assumption) | assumption)
        have q4 : x4_1 < (a0.size : Int) := of_decide_eq_true (by first | (with_reducible assumption) | assumption)
        have hx4 := bt_at a0 x4_1
        replace p4 := eq_true p4
        replace q4 := eq_true q4
        go_wp2_with (first | ((with_reducible refine gate_callee (f := 134) rfl ?_); refine gl 15 Tryz.func134 #[.int .u8 (bt a0 x4_1)] ?_; (with_reducible refine (r01_Class.calls k1 (bt a0 x4_1) t244 _ A5.out).mono ?_); rintro e w' ⟨rfl, ⟨nd, rfl⟩⟩; refine ⟨_, rfl, ?_⟩; have p8 : 0 ≤ (x4_1 : Int) := of_decide_eq_true (by first | (with_reducible assumption) | assumption); have q8 : x4_1 < (a0.size : Int) := of_decide_eq_true (by first | (with_reducible assumption) | assumption); have hx8 := bt_at a0 x4_1; replace p8 := eq_true p8; replace q8 := eq_true q8))
        go_roundg k1
        case measure => have := HK1.out; omega
        case rel => exact ⟨(false), (wrap64 (x4_1 + 1)), (by first | rfl | (simp; done) | (simp [*]; done)), (by first | rfl | (simp; done) | (simp [*]; done)), H', ⟨by have := HK1.out; omega⟩, by repeat (first | exact Drawn0.refl _ | apply Drawn0.step)⟩
       ·rw [if_neg c9] at H
        have c9b0 := beq_eq_false_iff_ne.mpr c9
        have c9b1 := bne_iff_ne.mpr c9
        obtain rfl := Option.some.inj H
        have p4 : 0 ≤ (x4_1 : Int) := of_decide_eq_true (by first | (with_reducible assumption) | assumption)
        have q4 : x4_1 < (a0.size : Int) := of_decide_eq_true (by first | (with_reducible assumption) | assumption)
        have hx4 := bt_at a0 x4_1
        replace p4 := eq_true p4
        replace q4 := eq_true q4
        go_wp2_with (first | ((with_reducible refine gate_callee (f := 134) rfl ?_); refine gl 15 Tryz.func134 #[.int .u8 (bt a0 x4_1)] ?_; (with_reducible refine (r01_Class.calls k1 (bt a0 x4_1) t244 _ A5.out).mono ?_); rintro e w' ⟨rfl, ⟨nd, rfl⟩⟩; refine ⟨_, rfl, ?_⟩; have p8 : 0 ≤ (x4_1 : Int) := of_decide_eq_true (by first | (with_reducible assumption) | assumption); have q8 : x4_1 < (a0.size : Int) := of_decide_eq_true (by first | (with_reducible assumption) | assumption); have hx8 := bt_at a0 x4_1; replace p8 := eq_true p8; replace q8 := eq_true q8))
        go_ret
        exact ⟨by first | rfl | (simp; done) | (simp [*]; done), by repeat (first | exact Drawn0.refl _ | apply Drawn0.step)⟩
    ·rw [if_neg c3] at H
     exact absurd H (by simp)
   ·rw [if_neg c2] at H
    have c2b0 : decide (x4_1 < (a0.size : Int)) = false := decide_eq_false c2
    clear c2
    by_cases c10 : (a0.size : Int) > 0
    ·rw [if_pos c10] at H
     have c10b0 : decide (0 < (a0.size : Int)) = true := decide_eq_true c10
     have c10b1 : decide (0 < a0.size) = true := decide_eq_true (by omega)
     clear c10
     by_cases c11 : x3_1 = true
     ·subst c11
      replace H := it H
      obtain ⟨t243, A12, H⟩ := bo H
      obtain rfl := Option.some.inj H
      go_wp2_with (first | (go_at_call 151; (with_reducible refine (r02_May.calls k1 a0 t243 _ A12.out).mono ?_); rintro e w' ⟨rfl, ⟨nd, rfl⟩⟩))
      go_ret
      exact ⟨by first | rfl | (simp; done) | (simp [*]; done), by repeat (first | exact Drawn0.refl _ | apply Drawn0.step)⟩
     ·replace c11 := Bool.eq_false_iff.mpr c11
      subst c11
      replace H := jf H
      obtain rfl := Option.some.inj H
      go_wp2
      go_ret
      exact ⟨by first | rfl | (simp; done) | (simp [*]; done), by repeat (first | exact Drawn0.refl _ | apply Drawn0.step)⟩
    ·rw [if_neg c10] at H
     have c10b0 : decide (0 < (a0.size : Int)) = false := decide_eq_false c10
     have c10b1 : decide (0 < a0.size) = false := decide_eq_false (by omega)
     clear c10
     obtain rfl := Option.some.inj H
     go_wp2
     go_ret
     exact ⟨by first | rfl | (simp; done) | (simp [*]; done), by repeat (first | exact Drawn0.refl _ | apply Drawn0.step)⟩
end Go.Proofs.YtjfcmkddeglghaaGreatDoor.G
end
section
namespace Go.Proofs.YtjfcmkddeglghaaGreatDoor.G
open Go.RowKit Go.Proofs.YtjfcmkddeglghaaGreatDoorW.PrintWords Go.Proofs.YtjfcmkddeglghaaGreatDoorW.PrintLast Go.Proofs.YtjfcmkddeglghaaGreatDoorW.PrintMore
attribute [local go_sem] max2_int min2_int max_two min_two max_three min_three max_four min_four
set_option linter.unusedVariables false
set_option linter.unusedSimpArgs false
mutual
def r03_Split.j0 : Nat → ByteArray → Bool → ByteArray → ByteArray → ByteArray → Option (ByteArray × ByteArray × ByteArray × List ByteArray × Bool)
 | 0, _, _, _, _, _ => none
 | k + 1, x0, x17, x247000, x247001, x247002 => if x17 = true then (some (x247000, x247001, x247002, ([] : List ByteArray), false)) else (r03_Split.l0 k x0 (x0.size : Int) (wrap64 ((x0.size : Int) - 1)) x247000 x247001 x247002)
def r03_Split.l0 : Nat → ByteArray → Int → Int → ByteArray → ByteArray → ByteArray → Option (ByteArray × ByteArray × ByteArray × List ByteArray × Bool)
 | 0, _, _, _, _, _, _ => none
 | k + 1, x0, x5, x6, x247000, x247001, x247002 => if x6 ≥ 0 then (if 0 ≤ x6 then (if x6 < (x0.size : Int) then (if (bt x0 x6) = 45 then (r03_Split.l0 k x0 x6 (wrap64 (x6 - 1)) x247000 x247001 x247002) else (r03_Split.l0 k x0 x5 (wrap64 (x6 - 1)) x247000 x247001 x247002)) else (none)) else (none)) else (if 1 ≤ x5 then (if x5 ≤ (x0.size : Int) then ((r01_Parts.f k (x0.extract 1 (x5 : Int).toNat) 46).bind fun t247 => (if (t247.length : Int) = 3 then (if 0 < (t247.length : Int) then ((r02_May.f k (rdOf ByteArray.empty t247 0)).bind fun t251 => (if t251 = true then (if 1 < (t247.length : Int) then ((r02_May.f k (rdOf ByteArray.empty t247 1)).bind fun t253 => (if t253 = true then (if 2 < (t247.length : Int) then ((r02_May.f k (rdOf ByteArray.empty t247 2)).bind fun t255 => (r03_Split.j2 k x0 x5 t247 (!t255) x247000 x247001 x247002)) else (none)) else (r03_Split.j2 k x0 x5 t247 true x247000 x247001 x247002))) else (none)) else (r03_Split.j2 k x0 x5 t247 true x247000 x247001 x247002))) else (none)) else (r03_Split.j2 k x0 x5 t247 true x247000 x247001 x247002))) else (none)) else (none))
def r03_Split.j2 : Nat → ByteArray → Int → List ByteArray → Bool → ByteArray → ByteArray → ByteArray → Option (ByteArray × ByteArray × ByteArray × List ByteArray × Bool)
 | 0, _, _, _, _, _, _, _ => none
 | k + 1, x0, x5, x7, x60, x247000, x247001, x247002 => if x60 = true then (some (x247000, x247001, x247002, ([] : List ByteArray), false)) else (if 0 < (x7.length : Int) then (if 1 < (x7.length : Int) then (if 2 < (x7.length : Int) then (if x5 = (x0.size : Int) then (some (rdOf ByteArray.empty x7 0, rdOf ByteArray.empty x7 1, rdOf ByteArray.empty x7 2, ([] : List ByteArray), true)) else (if 0 ≤ (wrap64 (x5 + 1)) then (if (wrap64 (x5 + 1)) ≤ (x0.size : Int) then ((r01_Parts.f k (x0.extract ((wrap64 (x5 + 1)) : Int).toNat x0.size) 46).bind fun t259 => (r03_Split.l1 k 0 (rdOf ByteArray.empty x7 0) (rdOf ByteArray.empty x7 1) (rdOf ByteArray.empty x7 2) t259)) else (none)) else (none))) else (none)) else (none)) else (none))
def r03_Split.l1 : Nat → Int → ByteArray → ByteArray → ByteArray → List ByteArray → Option (ByteArray × ByteArray × ByteArray × List ByteArray × Bool)
 | 0, _, _, _, _, _ => none
 | k + 1, x8, x247000, x247001, x247002, x247003 => if x8 < (x247003.length : Int) then (if 0 ≤ x8 then ((r03_Word.f k (rdOf ByteArray.empty x247003 x8)).bind fun t263 => (if t263 = true then (r03_Split.l1 k (wrap64 (x8 + 1)) x247000 x247001 x247002 x247003) else (some ((⟨#[]⟩ : ByteArray), (⟨#[]⟩ : ByteArray), (⟨#[]⟩ : ByteArray), ([] : List ByteArray), false)))) else (none)) else (some (x247000, x247001, x247002, x247003, true))
end
def r03_Split.f (k : Nat) (a0 : ByteArray) : Option (ByteArray × ByteArray × ByteArray × List ByteArray × Bool) := if (a0.size : Int) = 0 then (r03_Split.j0 k a0 true (⟨#[]⟩ : ByteArray) (⟨#[]⟩ : ByteArray) (⟨#[]⟩ : ByteArray)) else (if 0 < (a0.size : Int) then (r03_Split.j0 k a0 ((bt a0 0) != 118) (⟨#[]⟩ : ByteArray) (⟨#[]⟩ : ByteArray) (⟨#[]⟩ : ByteArray)) else (none))
def r03_Split.T13 : Bool × List (List Nat × List Nat) := (true, [([], []), ([0], [0]), ([1], [1]), ([], []), ([3], [3]), ([4], [4]), ([], []), ([6], [6]), ([7], [7]), ([0, 1, 2], []), ([9, 2, 0, 1, 2], [2, 9]), ([0, 1, 2, 3, 4, 5, 9, 10], []), ([11, 5, 10, 0, 1, 2, 3, 4, 5, 9, 10], [5, 11]), ([0, 1, 2, 3, 4, 5, 6, 7, 8, 9, 10, 11, 12], []), ([13, 8, 12, 0, 1, 2, 3, 4, 5, 6, 7, 8, 9, 10, 11, 12], [8, 13])])
def r03_Split.B13 : List Nat := [0, 1, 3, 0, 8, 24, 0, 64, 192, 7, 519, 1599, 3647, 8191, 16383]
theorem r03_Split.tab13 : rtab .any (opsOf Tryz.f116 13) = r03_Split.T13 := by kernel_rfl
theorem r03_Split.bits13 : waitsOk r03_Split.T13.2 r03_Split.B13 = true := by kernel_rfl
set_option maxHeartbeats 8000000 in
set_option maxRecDepth 100000 in
theorem r03_Split.calls (k : Nat) (a0 : ByteArray) (r1 : ByteArray) (r2 : ByteArray) (r3 : ByteArray) (r4 : List ByteArray) (r5 : Bool) (w : World) (h : r03_Split.f k a0 = some (r1, r2, r3, r4, r5)) :
  Calls Tryz.prog 116 #[.string a0] w fun e w' => ∃ v3_ : Value, e = .returned (.tuple #[.agg #[.string r1, .string r2, .string r3, v3_], .bool r5]) ∧ Kd.R Kd.string 9 w' w.heap.size (fun _ => True) v3_ r4 ∧ Below w.heap.size w w' := by
 have hu146 := Tryz.underlying146
 have HB := Aside0.mk (Below.refl w.heap.size w)
 have H : (if (a0.size : Int) = 0 then (r03_Split.j0 k a0 true (⟨#[]⟩ : ByteArray) (⟨#[]⟩ : ByteArray) (⟨#[]⟩ : ByteArray)) else (if 0 < (a0.size : Int) then (r03_Split.j0 k a0 ((bt a0 0) != 118) (⟨#[]⟩ : ByteArray) (⟨#[]⟩ : ByteArray) (⟨#[]⟩ : ByteArray)) else (none))) = some (r1, r2, r3, r4, r5) := h
 clear h
 have HC2 := Aside0.mk H
 clear H
 go_enter Tryz.func116, Tryz.ntmps116
 go_upto_region 2 with (first | ((with_reducible refine gate_dst (N := 2) rfl ?_); refine box_event ?hg (N := 2) ?hd (cs := #[.string (⟨#[]⟩ : ByteArray), .string (⟨#[]⟩ : ByteArray), .string (⟨#[]⟩ : ByteArray), .slice none 0 0]) (t := 146) ?hr ?_; (case hd => rfl); (case hg => rfl); (case hr => first | (go_simp; done) | (go_simp; rfl)); intro gb245 hg w3 hbox hb; have n0_ := bs HB hb; have n1_ := Aside0.mk (hbox); have n2_ := gz hg HB; have n3_ := gz hg HB; revert n0_ n1_ n2_ n3_; clear HB; intro HB BK245 GW245 GE245; clear hb hbox hg) | ((with_reducible refine gate_dst (N := 4) rfl ?_); refine box_event ?hg (N := 4) ?hd (cs := #[.string (⟨#[]⟩ : ByteArray), .string (⟨#[]⟩ : ByteArray), .string (⟨#[]⟩ : ByteArray), .slice none 0 0]) (t := 146) ?hr ?_; (case hd => rfl); (case hg => rfl); (case hr => first | (go_simp; done) | (go_simp; rfl)); intro gb246 hg w4 hbox hb; have n0_ := bb BK245 hb; have n1_ := bs HB hb; have n2_ := Aside0.mk (hbox); have n3_ := gz hg HB; have n4_ := gz hg HB; have n5_ := Aside0.mk ((by rw [hg]; exact Nat.ne_of_lt (blk_lt (g := gb245) (o := .cells #[.string (⟨#[]⟩ : ByteArray), .string (⟨#[]⟩ : ByteArray), .string (⟨#[]⟩ : ByteArray), .slice none 0 0] 146 (0, 0)) (bk BK245)) : gb245 ≠ gb246)); have n6_ := Aside0.mk ((by rw [hg]; exact Nat.ne_of_gt (blk_lt (g := gb245) (o := .cells #[.string (⟨#[]⟩ : ByteArray), .string (⟨#[]⟩ : ByteArray), .string (⟨#[]⟩ : ByteArray), .slice none 0 0] 146 (0, 0)) (bk BK245)) : gb246 ≠ gb245)); revert n0_ n1_ n2_ n3_ n4_ n5_ n6_; clear BK245 HB; intro BK245 HB BK246 GW246 GE246 NB245_246 NB246_245; clear hb hbox hg; have hnb5 := NB246_245.out; have hnc5 := NB245_246.out; have hcz6_0 := bc BK246 0; have hcz6_1 := bc BK246 1; have hcz6_2 := bc BK246 2; have hcz6_3 := bc BK246 3; have hfz6_0 := bf BK246 0; have hfz6_1 := bf BK246 1; have hfz6_2 := bf BK246 2; have hfz6_3 := bf BK246 3))
 (try simp only [Act.put, List.setIfInBounds_toArray, List.set_cons_zero, List.set_cons_succ])
 go_cut [17] (fun v17 wc => ∃ (kq : Nat) (x17_1 : Bool), v17 = .bool x17_1 ∧ Aside0 (r03_Split.j0 kq a0 x17_1 (⟨#[]⟩ : ByteArray) (⟨#[]⟩ : ByteArray) (⟨#[]⟩ : ByteArray) = some (r1, r2, r3, r4, r5)) ∧ Aside0 (kq ≤ k) ∧ Aside0 (wc.heap[gb245]? = some (.cells #[.string (⟨#[]⟩ : ByteArray), .string (⟨#[]⟩ : ByteArray), .string (⟨#[]⟩ : ByteArray), (.slice none 0 0)] 146 (0, 0))) ∧ Aside0 (wc.heap[gb246]? = some (.cells #[.string (⟨#[]⟩ : ByteArray), .string (⟨#[]⟩ : ByteArray), .string (⟨#[]⟩ : ByteArray), (.slice none 0 0)] 146 (0, 0))) ∧ Aside0 (Below w.heap.size w wc))
 case first =>
  have H := HC2.out
  clear HC2
  by_cases c7 : (a0.size : Int) = 0
  ·rw [if_pos c7] at H
   have c7b0 := beq_iff_eq.mpr c7
   have c7b1 := bne_eq_false_iff_eq.mpr c7
   clear c7
   (first | rw [c7b0] | (simp only [i64_w, i32_w]; rw [c7b0]) | skip)
   have H' := Aside0.mk H
   clear H
   go_wp2
   go_meet
   case rel => exact ⟨_, (true), (by first | rfl | (simp; done) | (simp [*]; done)), H', ⟨by first | omega | exact Nat.le_refl _⟩, ⟨by (with_reducible repeat (first | refine blk_drewN ?_ _ | refine blk_drew ?_ | refine blk_alloc ?_ _)); refine blk_far ?_ NB245_246.out _; (with_reducible repeat (first | refine blk_drewN ?_ _ | refine blk_drew ?_ | refine blk_alloc ?_ _)); refine blk_far ?_ NB245_246.out _; (with_reducible repeat (first | refine blk_drewN ?_ _ | refine blk_drew ?_ | refine blk_alloc ?_ _)); refine blk_far ?_ NB245_246.out _; (with_reducible repeat (first | refine blk_drewN ?_ _ | refine blk_drew ?_ | refine blk_alloc ?_ _)); refine blk_far ?_ NB245_246.out _; (with_reducible repeat (first | refine blk_drewN ?_ _ | refine blk_drew ?_ | refine blk_alloc ?_ _)); exact BK245.out⟩, ⟨by (with_reducible repeat (first | refine blk_drewN ?_ _ | refine blk_drew ?_ | refine blk_alloc ?_ _)); refine blk_put (cs := #[.string (⟨#[]⟩ : ByteArray), .string (⟨#[]⟩ : ByteArray), .string (⟨#[]⟩ : ByteArray), .slice none 0 0]) ?_ 3 _ rfl; (with_reducible repeat (first | refine blk_drewN ?_ _ | refine blk_drew ?_ | refine blk_alloc ?_ _)); refine blk_put (cs := #[.string (⟨#[]⟩ : ByteArray), .string (⟨#[]⟩ : ByteArray), .string (⟨#[]⟩ : ByteArray), .slice none 0 0]) ?_ 2 _ rfl; (with_reducible repeat (first | refine blk_drewN ?_ _ | refine blk_drew ?_ | refine blk_alloc ?_ _)); refine blk_put (cs := #[.string (⟨#[]⟩ : ByteArray), .string (⟨#[]⟩ : ByteArray), .string (⟨#[]⟩ : ByteArray), .slice none 0 0]) ?_ 1 _ rfl; (with_reducible repeat (first | refine blk_drewN ?_ _ | refine blk_drew ?_ | refine blk_alloc ?_ _)); refine blk_put (cs := #[.string (⟨#[]⟩ : ByteArray), .string (⟨#[]⟩ : ByteArray), .string (⟨#[]⟩ : ByteArray), .slice none 0 0]) ?_ 0 _ rfl; (with_reducible repeat (first | refine blk_drewN ?_ _ | refine blk_drew ?_ | refine blk_alloc ?_ _)); exact BK246.out⟩, ⟨ba HB⟩⟩
  ·rw [if_neg c7] at H
   have c7b0 := beq_eq_false_iff_ne.mpr c7
   have c7b1 := bne_iff_ne.mpr c7
   (first | rw [c7b0] | (simp only [i64_w, i32_w]; rw [c7b0]) | skip)
   by_cases c8 : 0 < (a0.size : Int)
   ·rw [if_pos c8] at H
    have c8b0 : decide (0 < (a0.size : Int)) = true := decide_eq_true c8
    have c8b1 : decide (0 < a0.size) = true := decide_eq_true (by omega)
    clear c8
    have H' := Aside0.mk H
    clear H
    have p9 : 0 ≤ (0 : Int) := (by omega)
    have q9 : 0 < a0.size := (by have : (0 : Int) < (a0.size : Int) := of_decide_eq_true (by first | (with_reducible assumption) | assumption); omega)
    have hx9 : ∀ h : 0 < a0.size, ((a0[0]'h).toNat : Int) = bt a0 0 := bt_at a0 0
    clear p9
    have qi9 : (0 < (a0.size : Int)) = True := eq_true (of_decide_eq_true (by first | (with_reducible assumption) | assumption))
    replace q9 := eq_true q9
    go_wp2
    go_meet
    case rel => exact ⟨_, (((bt a0 0) != 118)), (by first | rfl | (simp; done) | (simp [*]; done)), H', ⟨by first | omega | exact Nat.le_refl _⟩, ⟨by (with_reducible repeat (first | refine blk_drewN ?_ _ | refine blk_drew ?_ | refine blk_alloc ?_ _)); refine blk_far ?_ NB245_246.out _; (with_reducible repeat (first | refine blk_drewN ?_ _ | refine blk_drew ?_ | refine blk_alloc ?_ _)); refine blk_far ?_ NB245_246.out _; (with_reducible repeat (first | refine blk_drewN ?_ _ | refine blk_drew ?_ | refine blk_alloc ?_ _)); refine blk_far ?_ NB245_246.out _; (with_reducible repeat (first | refine blk_drewN ?_ _ | refine blk_drew ?_ | refine blk_alloc ?_ _)); refine blk_far ?_ NB245_246.out _; (with_reducible repeat (first | refine blk_drewN ?_ _ | refine blk_drew ?_ | refine blk_alloc ?_ _)); exact BK245.out⟩, ⟨by (with_reducible repeat (first | refine blk_drewN ?_ _ | refine blk_drew ?_ | refine blk_alloc ?_ _)); refine blk_put (cs := #[.string (⟨#[]⟩ : ByteArray), .string (⟨#[]⟩ : ByteArray), .string (⟨#[]⟩ : ByteArray), .slice none 0 0]) ?_ 3 _ rfl; (with_reducible repeat (first | refine blk_drewN ?_ _ | refine blk_drew ?_ | refine blk_alloc ?_ _)); refine blk_put (cs := #[.string (⟨#[]⟩ : ByteArray), .string (⟨#[]⟩ : ByteArray), .string (⟨#[]⟩ : ByteArray), .slice none 0 0]) ?_ 2 _ rfl; (with_reducible repeat (first | refine blk_drewN ?_ _ | refine blk_drew ?_ | refine blk_alloc ?_ _)); refine blk_put (cs := #[.string (⟨#[]⟩ : ByteArray), .string (⟨#[]⟩ : ByteArray), .string (⟨#[]⟩ : ByteArray), .slice none 0 0]) ?_ 1 _ rfl; (with_reducible repeat (first | refine blk_drewN ?_ _ | refine blk_drew ?_ | refine blk_alloc ?_ _)); refine blk_put (cs := #[.string (⟨#[]⟩ : ByteArray), .string (⟨#[]⟩ : ByteArray), .string (⟨#[]⟩ : ByteArray), .slice none 0 0]) ?_ 0 _ rfl; (with_reducible repeat (first | refine blk_drewN ?_ _ | refine blk_drew ?_ | refine blk_alloc ?_ _)); exact BK246.out⟩, ⟨ba HB⟩⟩
   ·rw [if_neg c8] at H
    exact absurd H (by simp)
 case rest =>
  clear HC2
  try clear c1
  try clear p2
  try clear c5
  try clear c7
  try clear c7b0
  try clear c7b1
  try clear c8
  try clear c8b0
  try clear c8b1
  try clear p9
  try clear q9
  try clear hx9
  try clear qi9
  try clear hcz6_0
  try clear hcz6_1
  try clear hcz6_2
  try clear hcz6_3
  try clear hfz6_0
  try clear hfz6_1
  try clear hfz6_2
  try clear hfz6_3
  try clear p9
  try clear q9
  obtain ⟨kq, x17_1, rfl, HA, HJ1, BK245, BK246, HB⟩ := hcut
  cases kq with
  | zero => exact absurd HA.out (by simp [r03_Split.j0])
  | succ kj1 =>
   have H := HA.out
   clear HA
   simp only [r03_Split.j0] at H
   by_cases c10 : x17_1 = true
   ·subst c10
    replace H := it H
    simp only [Option.some.injEq, Prod.mk.injEq] at H
    obtain ⟨rfl, rfl, rfl, rfl, rfl⟩ := H
    have hnb11 := NB246_245.out
    have hnc11 := NB245_246.out
    have hcz12_0 := bc BK246 0
    have hcz12_1 := bc BK246 1
    have hcz12_2 := bc BK246 2
    have hcz12_3 := bc BK246 3
    have hfz12_0 := bf BK246 0
    have hfz12_1 := bf BK246 1
    have hfz12_2 := bf BK246 2
    have hfz12_3 := bf BK246 3
    have hcz13_0 := bc BK245 0
    have hcz13_1 := bc BK245 1
    have hcz13_2 := bc BK245 2
    have hcz13_3 := bc BK245 3
    have hfz13_0 := bf BK245 0
    have hfz13_1 := bf BK245 1
    have hfz13_2 := bf BK245 2
    have hfz13_3 := bf BK245 3
    go_wp2
    refine bodyPost_ret (results_ct rfl _ _ gb245 146 #[.string (⟨#[]⟩ : ByteArray), .string (⟨#[]⟩ : ByteArray), .string (⟨#[]⟩ : ByteArray), .slice none 0 0] (0, 0) _ rfl (by (with_reducible repeat (first | refine blk_drewN ?_ _ | refine blk_drew ?_ | refine blk_alloc ?_ _)); refine blk_put (cs := #[.string (⟨#[]⟩ : ByteArray), .string (⟨#[]⟩ : ByteArray), .string (⟨#[]⟩ : ByteArray), .slice none 0 0]) ?_ 3 _ rfl; (with_reducible repeat (first | refine blk_drewN ?_ _ | refine blk_drew ?_ | refine blk_alloc ?_ _)); refine blk_put (cs := #[.string (⟨#[]⟩ : ByteArray), .string (⟨#[]⟩ : ByteArray), .string (⟨#[]⟩ : ByteArray), .slice none 0 0]) ?_ 2 _ rfl; (with_reducible repeat (first | refine blk_drewN ?_ _ | refine blk_drew ?_ | refine blk_alloc ?_ _)); refine blk_put (cs := #[.string (⟨#[]⟩ : ByteArray), .string (⟨#[]⟩ : ByteArray), .string (⟨#[]⟩ : ByteArray), .slice none 0 0]) ?_ 1 _ rfl; (with_reducible repeat (first | refine blk_drewN ?_ _ | refine blk_drew ?_ | refine blk_alloc ?_ _)); refine blk_put (cs := #[.string (⟨#[]⟩ : ByteArray), .string (⟨#[]⟩ : ByteArray), .string (⟨#[]⟩ : ByteArray), .slice none 0 0]) ?_ 0 _ rfl; (with_reducible repeat (first | refine blk_drewN ?_ _ | refine blk_drew ?_ | refine blk_alloc ?_ _)); exact BK245.out) Tryz.underlying146 rfl (by kernel_rfl)) rfl ?_
    exact ⟨_, by first | rfl | (simp [errW_none, errW_some] <;> rfl) | (simp [*, errW_none, errW_some] <;> rfl), by first | exact Kd.R_nil _ _ _ _ _ | exact Kd.N_nil _ _ _ _ _ | exact Kd.V_nil _ _ _ _ _ | exact Kd.Q_nil _ _ _ _ _ | exact Kd.S_nil _ _ _ _ _, ba HB⟩
   ·replace c10 := Bool.eq_false_iff.mpr c10
    subst c10
    replace H := jf H
    have H' := Aside0.mk H
    clear H
    go_wp2
    go_loopg [5, 6] kj1 (fun kq v5 v6 w' => ∃ (x5_2 : Int) (x6_2 : Int), v5 = .int .i64 x5_2 ∧ v6 = .int .i64 x6_2 ∧ Aside0 (r03_Split.l0 kq a0 x5_2 x6_2 (⟨#[]⟩ : ByteArray) (⟨#[]⟩ : ByteArray) (⟨#[]⟩ : ByteArray) = some (r1, r2, r3, r4, r5)) ∧ Aside0 (kq ≤ kj1) ∧ Aside0 (w'.heap[gb245]? = some (.cells #[.string (⟨#[]⟩ : ByteArray), .string (⟨#[]⟩ : ByteArray), .string (⟨#[]⟩ : ByteArray), (.slice none 0 0)] 146 (0, 0))) ∧ Aside0 (w'.heap[gb246]? = some (.cells #[.string (⟨#[]⟩ : ByteArray), .string (⟨#[]⟩ : ByteArray), .string (⟨#[]⟩ : ByteArray), (.slice none 0 0)] 146 (0, 0))) ∧ Aside0 (Below w.heap.size w w'))
    case atStart => exact ⟨((a0.size : Int)), (wrap64 ((a0.size : Int) - 1)), (by first | rfl | (simp; done) | (simp [*]; done)), (by first | rfl | (simp; done) | (simp [*]; done)), H', ⟨Nat.le_refl _⟩, ⟨by (with_reducible repeat (first | refine blk_drewN ?_ _ | refine blk_drew ?_ | refine blk_alloc ?_ _)); exact BK245.out⟩, ⟨by (with_reducible repeat (first | refine blk_drewN ?_ _ | refine blk_drew ?_ | refine blk_alloc ?_ _)); exact BK246.out⟩, ⟨ba HB⟩⟩
    case round =>
     clear H'
     try clear c1
     try clear p2
     try clear c5
     try clear p6
     try clear c7
     try clear c7b0
     try clear c7b1
     try clear c8
     try clear c8b0
     try clear c8b1
     try clear p9
     try clear q9
     try clear hx9
     try clear qi9
     try clear c10
     try clear c11
     try clear hcz12_0
     try clear hcz12_1
     try clear hcz12_2
     try clear hcz12_3
     try clear hcz13_0
     try clear hcz13_1
     try clear hcz13_2
     try clear hcz13_3
     try clear hcz6_0
     try clear hcz6_1
     try clear hcz6_2
     try clear hcz6_3
     try clear hfz12_0
     try clear hfz12_1
     try clear hfz12_2
     try clear hfz12_3
     try clear hfz13_0
     try clear hfz13_1
     try clear hfz13_2
     try clear hfz13_3
     try clear hfz6_0
     try clear hfz6_1
     try clear hfz6_2
     try clear hfz6_3
     try clear p2
     try clear p9
     try clear q9
     obtain ⟨x5_2, x6_2, rfl, rfl, HA, HK2, BK245, BK246, HB⟩ := hrel
     cases gk with
     | zero => exact absurd HA.out (by simp [r03_Split.l0])
     | succ k2 =>
      have H := HA.out
      clear HA
      simp only [r03_Split.l0] at H
      by_cases c14 : x6_2 ≥ 0
      ·rw [if_pos c14] at H
       have c14b0 : decide (0 ≤ x6_2) = true := decide_eq_true c14
       clear c14
       by_cases c15 : 0 ≤ x6_2
       ·rw [if_pos c15] at H
        have c15b0 : decide (0 ≤ x6_2) = true := decide_eq_true c15
        clear c15
        by_cases c16 : x6_2 < (a0.size : Int)
        ·rw [if_pos c16] at H
         have c16b0 : decide (x6_2 < (a0.size : Int)) = true := decide_eq_true c16
         clear c16
         by_cases c18 : (bt a0 x6_2) = 45
         ·rw [if_pos c18] at H
          have c18b0 := beq_iff_eq.mpr c18
          have c18b1 := bne_eq_false_iff_eq.mpr c18
          clear c18
          have H' := Aside0.mk H
          clear H
          have p17 : 0 ≤ (x6_2 : Int) := of_decide_eq_true (by first | (with_reducible assumption) | assumption)
          have q17 : x6_2 < (a0.size : Int) := of_decide_eq_true (by first | (with_reducible assumption) | assumption)
          have hx17 := bt_at a0 x6_2
          replace p17 := eq_true p17
          replace q17 := eq_true q17
          go_wp2
          go_roundg k2
          case measure => have := HJ1.out; have := HK2.out; omega
          case rel => exact ⟨(x6_2), (wrap64 (x6_2 - 1)), (by first | rfl | (simp; done) | (simp [*]; done)), (by first | rfl | (simp; done) | (simp [*]; done)), H', ⟨by have := HJ1.out; have := HK2.out; omega⟩, ⟨by (with_reducible repeat (first | refine blk_drewN ?_ _ | refine blk_drew ?_ | refine blk_alloc ?_ _)); exact BK245.out⟩, ⟨by (with_reducible repeat (first | refine blk_drewN ?_ _ | refine blk_drew ?_ | refine blk_alloc ?_ _)); exact BK246.out⟩, ⟨ba HB⟩⟩
         ·rw [if_neg c18] at H
          have c18b0 := beq_eq_false_iff_ne.mpr c18
          have c18b1 := bne_iff_ne.mpr c18
          have H' := Aside0.mk H
          clear H
          have p17 : 0 ≤ (x6_2 : Int) := of_decide_eq_true (by first | (with_reducible assumption) | assumption)
          have q17 : x6_2 < (a0.size : Int) := of_decide_eq_true (by first | (with_reducible assumption) | assumption)
          have hx17 := bt_at a0 x6_2
          replace p17 := eq_true p17
          replace q17 := eq_true q17
          go_wp2
          go_roundg k2
          case measure => have := HJ1.out; have := HK2.out; omega
          case rel => exact ⟨(x5_2), (wrap64 (x6_2 - 1)), (by first | rfl | (simp; done) | (simp [*]; done)), (by first | rfl | (simp; done) | (simp [*]; done)), H', ⟨by have := HJ1.out; have := HK2.out; omega⟩, ⟨by (with_reducible repeat (first | refine blk_drewN ?_ _ | refine blk_drew ?_ | refine blk_alloc ?_ _)); exact BK245.out⟩, ⟨by (with_reducible repeat (first | refine blk_drewN ?_ _ | refine blk_drew ?_ | refine blk_alloc ?_ _)); exact BK246.out⟩, ⟨ba HB⟩⟩
        ·rw [if_neg c16] at H
         exact absurd H (by simp)
       ·rw [if_neg c15] at H
        exact absurd H (by simp)
      ·rw [if_neg c14] at H
       have c14b0 : decide (0 ≤ x6_2) = false := decide_eq_false c14
       clear c14
       by_cases c19 : 1 ≤ x5_2
       ·rw [if_pos c19] at H
        have c19b0 := eq_true c19
        have c19b1 : decide (1 ≤ x5_2) = true := decide_eq_true c19
        clear c19
        by_cases c20 : x5_2 ≤ (a0.size : Int)
        ·rw [if_pos c20] at H
         have c20b0 := eq_true c20
         have c20b1 : decide (x5_2 ≤ (a0.size : Int)) = true := decide_eq_true c20
         clear c20
         obtain ⟨t247, A21, H⟩ := bo H
         have HC22 := Aside0.mk H
         clear H
         go_upto_region 11 with (first | ((with_reducible refine gate_callee (f := 97) rfl ?_); refine gl 36 Tryz.func97 #[.string (a0.extract 1 (x5_2 : Int).toNat), .int .u8 46] ?_; (with_reducible refine (r01_Parts.calls k2 (a0.extract 1 (x5_2 : Int).toNat) 46 t247 _ A21.out).mono ?_); rintro e w23 ⟨v248, rfl, ho0, hb⟩; refine ⟨_, rfl, ?_⟩; have n0_ := Aside0.mk (Kd.R_lower ho0 (bz HB)); have n1_ := bb BK245 hb; have n2_ := bb BK246 hb; have n3_ := bs HB hb; revert n0_ n1_ n2_ n3_; clear BK245 BK246 HB; intro HO249 BK245 BK246 HB; (try clear hb); (try clear ho0)))
         (try simp only [Act.put, List.setIfInBounds_toArray, List.set_cons_zero, List.set_cons_succ])
         go_cut [60] (fun v60 wc => ∃ (kq : Nat) (x60_21 : Bool), v60 = .bool x60_21 ∧ Aside0 (r03_Split.j2 kq a0 x5_2 t247 x60_21 (⟨#[]⟩ : ByteArray) (⟨#[]⟩ : ByteArray) (⟨#[]⟩ : ByteArray) = some (r1, r2, r3, r4, r5)) ∧ Aside0 (kq ≤ k2) ∧ Aside0 (Kd.R Kd.string 9 wc w.heap.size (fun _ => True) v248 t247) ∧ Aside0 (wc.heap[gb245]? = some (.cells #[.string (⟨#[]⟩ : ByteArray), .string (⟨#[]⟩ : ByteArray), .string (⟨#[]⟩ : ByteArray), (.slice none 0 0)] 146 (0, 0))) ∧ Aside0 (wc.heap[gb246]? = some (.cells #[.string (⟨#[]⟩ : ByteArray), .string (⟨#[]⟩ : ByteArray), .string (⟨#[]⟩ : ByteArray), (.slice none 0 0)] 146 (0, 0))) ∧ Aside0 (Below w.heap.size w wc))
         case first =>
          have H := HC22.out
          clear HC22
          by_cases c24 : (t247.length : Int) = 3
          ·rw [if_pos c24] at H
           have c24b0 := beq_iff_eq.mpr c24
           have c24b1 := bne_eq_false_iff_eq.mpr c24
           clear c24
           (first | rw [c24b0] | (simp only [i64_w, i32_w]; rw [c24b0]) | skip)
           by_cases c25 : 0 < (t247.length : Int)
           ·rw [if_pos c25] at H
            have c25b0 : decide (0 < (t247.length : Int)) = true := decide_eq_true c25
            have c25b1 : decide (0 < t247.length) = true := decide_eq_true (by omega)
            clear c25
            obtain ⟨t251, A26, H⟩ := bo H
            by_cases c27 : t251 = true
            ·subst c27
             replace H := it H
             by_cases c28 : 1 < (t247.length : Int)
             ·rw [if_pos c28] at H
              have c28b0 : decide (1 < (t247.length : Int)) = true := decide_eq_true c28
              have c28b1 : decide (1 < t247.length) = true := decide_eq_true (by omega)
              clear c28
              obtain ⟨t253, A29, H⟩ := bo H
              by_cases c30 : t253 = true
              ·subst c30
               replace H := it H
               by_cases c31 : 2 < (t247.length : Int)
               ·rw [if_pos c31] at H
                have c31b0 : decide (2 < (t247.length : Int)) = true := decide_eq_true c31
                have c31b1 : decide (2 < t247.length) = true := decide_eq_true (by omega)
                clear c31
                obtain ⟨t255, A32, H⟩ := bo H
                have H' := Aside0.mk H
                clear H
                obtain ⟨Ao33, co33, eo33⟩ := Kd.R_slice HO249.out
                subst eo33
                have p250 : 0 ≤ (0 : Int) := (by omega)
                have q250 : 0 < (t247.length : Int) := of_decide_eq_true (by first | (with_reducible assumption) | assumption)
                obtain ⟨ad250, e250, hx250_0⟩ := Kd.at_string (Kd.R_reads' HO249.out).2.2 0 p250 q250
                cases e250
                have qi250 : (0 < t247.length) = True := eq_true (by omega)
                (try rw [show ((0 : Int)).toNat = 0 from rfl] at hx250_0)
                (try rw [Addr.add_zero'] at hx250_0)
                replace p250 := eq_true p250
                replace q250 := eq_true q250
                go_wp2_with (first | (go_at_call 151; (with_reducible refine (r02_May.calls k2 (rdOf ByteArray.empty t247 0) true _ A26.out).mono ?_); rintro e w' ⟨rfl, ⟨nd, rfl⟩⟩; have p252 : 0 ≤ (1 : Int) := (by omega); have q252 : 1 < (t247.length : Int) := of_decide_eq_true (by first | (with_reducible assumption) | assumption); obtain ⟨ad252, e252, hx252_0⟩ := Kd.at_string (Kd.R_reads' HO249.out).2.2 1 p252 q252; obtain rfl : ad250 = ad252 := (by injection e252); (try simp only [show (1 : Int).toNat = 1 from rfl, Nat.reduceMul, Nat.reduceEqDiff, Go.Addr.add, ↓reduceIte] at hx252_0); have qi252 : (1 < t247.length) = True := eq_true (by omega); (try rw [show ((1 : Int)).toNat = 1 from rfl] at hx252_0); replace p252 := eq_true p252; replace q252 := eq_true q252) | (go_at_call 151; (with_reducible refine (r02_May.calls k2 (rdOf ByteArray.empty t247 1) true _ A29.out).mono ?_); rintro e w' ⟨rfl, ⟨nd, rfl⟩⟩; have p254 : 0 ≤ (2 : Int) := (by omega); have q254 : 2 < (t247.length : Int) := of_decide_eq_true (by first | (with_reducible assumption) | assumption); obtain ⟨ad254, e254, hx254_0⟩ := Kd.at_string (Kd.R_reads' HO249.out).2.2 2 p254 q254; obtain rfl : ad250 = ad254 := (by injection e254); (try simp only [show (2 : Int).toNat = 2 from rfl, Nat.reduceMul, Nat.reduceEqDiff, Go.Addr.add, ↓reduceIte] at hx254_0); have qi254 : (2 < t247.length) = True := eq_true (by omega); (try rw [show ((2 : Int)).toNat = 2 from rfl] at hx254_0); replace p254 := eq_true p254; replace q254 := eq_true q254) | (go_at_call 151; (with_reducible refine (r02_May.calls k2 (rdOf ByteArray.empty t247 2) t255 _ A32.out).mono ?_); rintro e w' ⟨rfl, ⟨nd, rfl⟩⟩))
                go_meet
                case rel => exact ⟨_, (!t255), (by first | rfl | (simp; done) | (simp [*]; done)), H', ⟨by have := HJ1.out; have := HK2.out; first | omega | exact Nat.le_refl _⟩, ⟨ra HO249⟩, ⟨by (with_reducible repeat (first | refine blk_drewN ?_ _ | refine blk_drew ?_ | refine blk_alloc ?_ _)); exact BK245.out⟩, ⟨by (with_reducible repeat (first | refine blk_drewN ?_ _ | refine blk_drew ?_ | refine blk_alloc ?_ _)); exact BK246.out⟩, ⟨ba HB⟩⟩
               ·rw [if_neg c31] at H
                exact absurd H (by simp)
              ·replace c30 := Bool.eq_false_iff.mpr c30
               subst c30
               replace H := jf H
               have H' := Aside0.mk H
               clear H
               obtain ⟨Ao34, co34, eo34⟩ := Kd.R_slice HO249.out
               subst eo34
               have p250 : 0 ≤ (0 : Int) := (by omega)
               have q250 : 0 < (t247.length : Int) := of_decide_eq_true (by first | (with_reducible assumption) | assumption)
               obtain ⟨ad250, e250, hx250_0⟩ := Kd.at_string (Kd.R_reads' HO249.out).2.2 0 p250 q250
               cases e250
               have qi250 : (0 < t247.length) = True := eq_true (by omega)
               (try rw [show ((0 : Int)).toNat = 0 from rfl] at hx250_0)
               (try rw [Addr.add_zero'] at hx250_0)
               replace p250 := eq_true p250
               replace q250 := eq_true q250
               go_wp2_with (first | (go_at_call 151; (with_reducible refine (r02_May.calls k2 (rdOf ByteArray.empty t247 0) true _ A26.out).mono ?_); rintro e w' ⟨rfl, ⟨nd, rfl⟩⟩; have p252 : 0 ≤ (1 : Int) := (by omega); have q252 : 1 < (t247.length : Int) := of_decide_eq_true (by first | (with_reducible assumption) | assumption); obtain ⟨ad252, e252, hx252_0⟩ := Kd.at_string (Kd.R_reads' HO249.out).2.2 1 p252 q252; obtain rfl : ad250 = ad252 := (by injection e252); (try simp only [show (1 : Int).toNat = 1 from rfl, Nat.reduceMul, Nat.reduceEqDiff, Go.Addr.add, ↓reduceIte] at hx252_0); have qi252 : (1 < t247.length) = True := eq_true (by omega); (try rw [show ((1 : Int)).toNat = 1 from rfl] at hx252_0); replace p252 := eq_true p252; replace q252 := eq_true q252) | (go_at_call 151; (with_reducible refine (r02_May.calls k2 (rdOf ByteArray.empty t247 1) false _ A29.out).mono ?_); rintro e w' ⟨rfl, ⟨nd, rfl⟩⟩))
               go_meet
               case rel => exact ⟨_, (true), (by first | rfl | (simp; done) | (simp [*]; done)), H', ⟨by have := HJ1.out; have := HK2.out; first | omega | exact Nat.le_refl _⟩, ⟨ra HO249⟩, ⟨by (with_reducible repeat (first | refine blk_drewN ?_ _ | refine blk_drew ?_ | refine blk_alloc ?_ _)); exact BK245.out⟩, ⟨by (with_reducible repeat (first | refine blk_drewN ?_ _ | refine blk_drew ?_ | refine blk_alloc ?_ _)); exact BK246.out⟩, ⟨ba HB⟩⟩
             ·rw [if_neg c28] at H
              exact absurd H (by simp)
            ·replace c27 := Bool.eq_false_iff.mpr c27
             subst c27
             replace H := jf H
             have H' := Aside0.mk H
             clear H
             obtain ⟨Ao35, co35, eo35⟩ := Kd.R_slice HO249.out
             subst eo35
             have p250 : 0 ≤ (0 : Int) := (by omega)
             have q250 : 0 < (t247.length : Int) := of_decide_eq_true (by first | (with_reducible assumption) | assumption)
             obtain ⟨ad250, e250, hx250_0⟩ := Kd.at_string (Kd.R_reads' HO249.out).2.2 0 p250 q250
             cases e250
             have qi250 : (0 < t247.length) = True := eq_true (by omega)
             (try rw [show ((0 : Int)).toNat = 0 from rfl] at hx250_0)
             (try rw [Addr.add_zero'] at hx250_0)
             replace p250 := eq_true p250
             replace q250 := eq_true q250
             go_wp2_with (first | (go_at_call 151; (with_reducible refine (r02_May.calls k2 (rdOf ByteArray.empty t247 0) false _ A26.out).mono ?_); rintro e w' ⟨rfl, ⟨nd, rfl⟩⟩))
             go_meet
             case rel => exact ⟨_, (true), (by first | rfl | (simp; done) | (simp [*]; done)), H', ⟨by have := HJ1.out; have := HK2.out; first | omega | exact Nat.le_refl _⟩, ⟨ra HO249⟩, ⟨by (with_reducible repeat (first | refine blk_drewN ?_ _ | refine blk_drew ?_ | refine blk_alloc ?_ _)); exact BK245.out⟩, ⟨by (with_reducible repeat (first | refine blk_drewN ?_ _ | refine blk_drew ?_ | refine blk_alloc ?_ _)); exact BK246.out⟩, ⟨ba HB⟩⟩
           ·rw [if_neg c25] at H
            exact absurd H (by simp)
          ·rw [if_neg c24] at H
           have c24b0 := beq_eq_false_iff_ne.mpr c24
           have c24b1 := bne_iff_ne.mpr c24
           (first | rw [c24b0] | (simp only [i64_w, i32_w]; rw [c24b0]) | skip)
           have H' := Aside0.mk H
           clear H
           obtain ⟨Ao36, co36, eo36⟩ := Kd.R_slice HO249.out
           subst eo36
           go_wp2
           go_meet
           case rel => exact ⟨_, (true), (by first | rfl | (simp; done) | (simp [*]; done)), H', ⟨by have := HJ1.out; have := HK2.out; first | omega | exact Nat.le_refl _⟩, ⟨ra HO249⟩, ⟨by (with_reducible repeat (first | refine blk_drewN ?_ _ | refine blk_drew ?_ | refine blk_alloc ?_ _)); exact BK245.out⟩, ⟨by (with_reducible repeat (first | refine blk_drewN ?_ _ | refine blk_drew ?_ | refine blk_alloc ?_ _)); exact BK246.out⟩, ⟨ba HB⟩⟩
         case rest =>
          clear HC22
          try clear c1
          try clear p1
          try clear q1
          try clear hx1
          try clear c2
          try clear p2
          try clear q2
          try clear hx2
          try clear qi2
          try clear c3
          try clear c5
          try clear p6
          try clear c7
          try clear c7b0
          try clear c7b1
          try clear c8
          try clear c8b0
          try clear c8b1
          try clear c9
          try clear p9
          try clear q9
          try clear hx9
          try clear qi9
          try clear c10
          try clear c11
          try clear c14
          try clear c14b0
          try clear c15
          try clear c15b0
          try clear c16
          try clear c16b0
          try clear p17
          try clear q17
          try clear hx17
          try clear c18
          try clear c18b0
          try clear c18b1
          try clear c19
          try clear c19b0
          try clear c19b1
          try clear c20
          try clear c20b0
          try clear c20b1
          try clear c24
          try clear c24b0
          try clear c24b1
          try clear c25
          try clear c25b0
          try clear c25b1
          try clear p25
          try clear q25
          try clear hx25
          try clear qi25
          try clear c27
          try clear c28
          try clear c28b0
          try clear c28b1
          try clear c30
          try clear c31
          try clear c31b0
          try clear c31b1
          try clear hcz12_0
          try clear hcz12_1
          try clear hcz12_2
          try clear hcz12_3
          try clear hcz13_0
          try clear hcz13_1
          try clear hcz13_2
          try clear hcz13_3
          try clear hcz6_0
          try clear hcz6_1
          try clear hcz6_2
          try clear hcz6_3
          try clear hfz12_0
          try clear hfz12_1
          try clear hfz12_2
          try clear hfz12_3
          try clear hfz13_0
          try clear hfz13_1
          try clear hfz13_2
          try clear hfz13_3
          try clear hfz6_0
          try clear hfz6_1
          try clear hfz6_2
          try clear hfz6_3
          try clear hx250_0
          try clear hx252_0
          try clear hx254_0
          try clear p17
          try clear p2
          try clear p250
          try clear p252
          try clear p254
          try clear p6
          try clear p9
          try clear q17
          try clear q250
          try clear q252
          try clear q254
          try clear q9
          obtain ⟨kq, x60_21, rfl, HA, HJ21, HO_7, BK245, BK246, HB⟩ := hcut
          cases kq with
          | zero => exact absurd HA.out (by simp [r03_Split.j2])
          | succ kj21 =>
           have H := HA.out
           clear HA
           simp only [r03_Split.j2] at H
           by_cases c37 : x60_21 = true
           ·subst c37
            replace H := it H
            simp only [Option.some.injEq, Prod.mk.injEq] at H
            obtain ⟨rfl, rfl, rfl, rfl, rfl⟩ := H
            have hnb38 := NB246_245.out
            have hnc38 := NB245_246.out
            have hcz39_0 := bc BK246 0
            have hcz39_1 := bc BK246 1
            have hcz39_2 := bc BK246 2
            have hcz39_3 := bc BK246 3
            have hfz39_0 := bf BK246 0
            have hfz39_1 := bf BK246 1
            have hfz39_2 := bf BK246 2
            have hfz39_3 := bf BK246 3
            have hcz40_0 := bc BK245 0
            have hcz40_1 := bc BK245 1
            have hcz40_2 := bc BK245 2
            have hcz40_3 := bc BK245 3
            have hfz40_0 := bf BK245 0
            have hfz40_1 := bf BK245 1
            have hfz40_2 := bf BK245 2
            have hfz40_3 := bf BK245 3
            go_wp2
            refine bodyPost_ret (results_ct rfl _ _ gb245 146 #[.string (⟨#[]⟩ : ByteArray), .string (⟨#[]⟩ : ByteArray), .string (⟨#[]⟩ : ByteArray), .slice none 0 0] (0, 0) _ rfl (by (with_reducible repeat (first | refine blk_drewN ?_ _ | refine blk_drew ?_ | refine blk_alloc ?_ _)); refine blk_put (cs := #[.string (⟨#[]⟩ : ByteArray), .string (⟨#[]⟩ : ByteArray), .string (⟨#[]⟩ : ByteArray), .slice none 0 0]) ?_ 3 _ rfl; (with_reducible repeat (first | refine blk_drewN ?_ _ | refine blk_drew ?_ | refine blk_alloc ?_ _)); refine blk_put (cs := #[.string (⟨#[]⟩ : ByteArray), .string (⟨#[]⟩ : ByteArray), .string (⟨#[]⟩ : ByteArray), .slice none 0 0]) ?_ 2 _ rfl; (with_reducible repeat (first | refine blk_drewN ?_ _ | refine blk_drew ?_ | refine blk_alloc ?_ _)); refine blk_put (cs := #[.string (⟨#[]⟩ : ByteArray), .string (⟨#[]⟩ : ByteArray), .string (⟨#[]⟩ : ByteArray), .slice none 0 0]) ?_ 1 _ rfl; (with_reducible repeat (first | refine blk_drewN ?_ _ | refine blk_drew ?_ | refine blk_alloc ?_ _)); refine blk_put (cs := #[.string (⟨#[]⟩ : ByteArray), .string (⟨#[]⟩ : ByteArray), .string (⟨#[]⟩ : ByteArray), .slice none 0 0]) ?_ 0 _ rfl; (with_reducible repeat (first | refine blk_drewN ?_ _ | refine blk_drew ?_ | refine blk_alloc ?_ _)); exact BK245.out) Tryz.underlying146 rfl (by kernel_rfl)) rfl ?_
            exact ⟨_, by first | rfl | (simp [errW_none, errW_some] <;> rfl) | (simp [*, errW_none, errW_some] <;> rfl), by first | exact Kd.R_nil _ _ _ _ _ | exact Kd.N_nil _ _ _ _ _ | exact Kd.V_nil _ _ _ _ _ | exact Kd.Q_nil _ _ _ _ _ | exact Kd.S_nil _ _ _ _ _, ba HB⟩
           ·replace c37 := Bool.eq_false_iff.mpr c37
            subst c37
            replace H := jf H
            by_cases c41 : 0 < (t247.length : Int)
            ·rw [if_pos c41] at H
             have c41b0 : decide (0 < (t247.length : Int)) = true := decide_eq_true c41
             have c41b1 : decide (0 < t247.length) = true := decide_eq_true (by omega)
             clear c41
             by_cases c42 : 1 < (t247.length : Int)
             ·rw [if_pos c42] at H
              have c42b0 : decide (1 < (t247.length : Int)) = true := decide_eq_true c42
              have c42b1 : decide (1 < t247.length) = true := decide_eq_true (by omega)
              clear c42
              by_cases c43 : 2 < (t247.length : Int)
              ·rw [if_pos c43] at H
               have c43b0 : decide (2 < (t247.length : Int)) = true := decide_eq_true c43
               have c43b1 : decide (2 < t247.length) = true := decide_eq_true (by omega)
               clear c43
               by_cases c44 : x5_2 = (a0.size : Int)
               ·rw [if_pos c44] at H
                have c44b0 := beq_iff_eq.mpr c44
                have c44b1 := bne_eq_false_iff_eq.mpr c44
                clear c44
                simp only [Option.some.injEq, Prod.mk.injEq] at H
                obtain ⟨rfl, rfl, rfl, rfl, rfl⟩ := H
                try go_wp2
                have n0_ := Aside0.mk (Kd.R_drew HO_7.out)
                have n1_ := Aside0.mk (blk_drew BK245.out)
                have n2_ := Aside0.mk (blk_drew BK246.out)
                have n3_ := Aside0.mk (below_drew1 HB.out)
                revert n0_ n1_ n2_ n3_
                clear HO_7 BK245 BK246 HB
                intro HO_7 BK245 BK246 HB
                obtain ⟨Ao46, co46, eo46⟩ := Kd.R_slice HO_7.out
                (first | subst eo46 | (injection eo46 with f1_ f2_ f3_; have f4_ := f1_.symm; have f5_ := f3_.symm; clear f1_ f2_ f3_; subst f4_; subst f5_))
                have p256 : 0 ≤ (0 : Int) := (by omega)
                have q256 : 0 < (t247.length : Int) := of_decide_eq_true (by first | (with_reducible assumption) | assumption)
                obtain ⟨ad256, e256, hx256_0⟩ := Kd.at_string (Kd.R_reads' HO_7.out).2.2 0 p256 q256
                cases e256
                have qi256 : (0 < t247.length) = True := eq_true (by omega)
                (try rw [show ((0 : Int)).toNat = 0 from rfl] at hx256_0)
                (try rw [Addr.add_zero'] at hx256_0)
                replace p256 := eq_true p256
                replace q256 := eq_true q256
                have p257 : 0 ≤ (1 : Int) := (by omega)
                have q257 : 1 < (t247.length : Int) := of_decide_eq_true (by first | (with_reducible assumption) | assumption)
                obtain ⟨ad257, e257, hx257_0⟩ := Kd.at_string (Kd.R_reads' HO_7.out).2.2 1 p257 q257
                obtain rfl : ad256 = ad257 := (by injection e257)
                (try simp only [show (1 : Int).toNat = 1 from rfl, Nat.reduceMul, Nat.reduceEqDiff, Go.Addr.add, ↓reduceIte] at hx257_0)
                have qi257 : (1 < t247.length) = True := eq_true (by omega)
                (try rw [show ((1 : Int)).toNat = 1 from rfl] at hx257_0)
                replace p257 := eq_true p257
                replace q257 := eq_true q257
                have p258 : 0 ≤ (2 : Int) := (by omega)
                have q258 : 2 < (t247.length : Int) := of_decide_eq_true (by first | (with_reducible assumption) | assumption)
                obtain ⟨ad258, e258, hx258_0⟩ := Kd.at_string (Kd.R_reads' HO_7.out).2.2 2 p258 q258
                obtain rfl : ad256 = ad258 := (by injection e258)
                (try simp only [show (2 : Int).toNat = 2 from rfl, Nat.reduceMul, Nat.reduceEqDiff, Go.Addr.add, ↓reduceIte] at hx258_0)
                have qi258 : (2 < t247.length) = True := eq_true (by omega)
                (try rw [show ((2 : Int)).toNat = 2 from rfl] at hx258_0)
                replace p258 := eq_true p258
                replace q258 := eq_true q258
                refine start_ (n := 15) (S := fun w' => w'.cell? ad256 = some (.string (rdOf ByteArray.empty t247 0)) ∧ w'.cell? ⟨ad256.block, ad256.off + 1, none⟩ = some (.string (rdOf ByteArray.empty t247 1)) ∧ w'.cell? ⟨ad256.block, ad256.off + 2, none⟩ = some (.string (rdOf ByteArray.empty t247 2))) (ds := []) #[false, false, false, false, false, false, false, false, false, false, false, false, false, false, false] (by kernel_rfl) rfl rfl ⟨hx256_0, hx257_0, hx258_0⟩ (fun hHeld => ?_); refine with_tabW r03_Split.tab13 r03_Split.bits13 (fun HT_ HW_ => ?_)
                generalize wc.drew = w45 at HO_7 BK245 BK246 HB hx256_0 hx257_0 hx258_0 hHeld ⊢
                refine pu 0 62 ?_
                refine pu 1 63 ?_
                refine pu 3 65 ?_
                refine pu 4 66 ?_
                refine pu 6 68 ?_
                refine pu 7 69 ?_
                refine tk 2 64 ?_
                refine pu 9 71 ?_
                refine tk 5 67 ?_
                refine tk 8 70 ?_
                refine oq 10 none fun K hK => ?_
                have hs47 := bc BK246 0
                have hfs47 := bf BK246 0
                have hns47_0 := NB245_246.out
                have hms47_0 := NB246_245.out
                refine sk ?_
                refine hK.out _ _ ⟨((cell_far (p := ⟨gb246, _, none⟩) (by first | exact Kd.own_blk (Kd.R_ne HO_7.out BK246.out (by decide)) | (rw [add_block]; exact Kd.own_blk (Kd.R_ne HO_7.out BK246.out (by decide))) | (show (Addr.add _ _).block ≠ _; rw [add_block]; exact Kd.own_blk (Kd.R_ne HO_7.out BK246.out (by decide))) | (dsimp only; exact Kd.own_blk (Kd.R_ne HO_7.out BK246.out (by decide)))) _).trans (hHeld.1)), ((cell_far (p := ⟨gb246, _, none⟩) (by first | exact Kd.own_blk (Kd.R_ne HO_7.out BK246.out (by decide)) | (rw [add_block]; exact Kd.own_blk (Kd.R_ne HO_7.out BK246.out (by decide))) | (show (Addr.add _ _).block ≠ _; rw [add_block]; exact Kd.own_blk (Kd.R_ne HO_7.out BK246.out (by decide))) | (dsimp only; exact Kd.own_blk (Kd.R_ne HO_7.out BK246.out (by decide)))) _).trans (hHeld.2.1)), ((cell_far (p := ⟨gb246, _, none⟩) (by first | exact Kd.own_blk (Kd.R_ne HO_7.out BK246.out (by decide)) | (rw [add_block]; exact Kd.own_blk (Kd.R_ne HO_7.out BK246.out (by decide))) | (show (Addr.add _ _).block ≠ _; rw [add_block]; exact Kd.own_blk (Kd.R_ne HO_7.out BK246.out (by decide))) | (dsimp only; exact Kd.own_blk (Kd.R_ne HO_7.out BK246.out (by decide)))) _).trans (hHeld.2.2))⟩ (fun hHeld => ?_)
                clear hK K
                refine pu 11 72 ?_
                refine oq 12 none fun K hK => ?_
                have hs48 := bc BK246 1
                have hfs48 := bf BK246 1
                have hns48_0 := NB245_246.out
                have hms48_0 := NB246_245.out
                refine sk ?_
                refine hK.out _ _ ⟨((cell_far (p := ⟨gb246, _, none⟩) (by first | exact Kd.own_blk (Kd.R_ne HO_7.out BK246.out (by decide)) | (rw [add_block]; exact Kd.own_blk (Kd.R_ne HO_7.out BK246.out (by decide))) | (show (Addr.add _ _).block ≠ _; rw [add_block]; exact Kd.own_blk (Kd.R_ne HO_7.out BK246.out (by decide))) | (dsimp only; exact Kd.own_blk (Kd.R_ne HO_7.out BK246.out (by decide)))) _).trans (hHeld.1)), ((cell_far (p := ⟨gb246, _, none⟩) (by first | exact Kd.own_blk (Kd.R_ne HO_7.out BK246.out (by decide)) | (rw [add_block]; exact Kd.own_blk (Kd.R_ne HO_7.out BK246.out (by decide))) | (show (Addr.add _ _).block ≠ _; rw [add_block]; exact Kd.own_blk (Kd.R_ne HO_7.out BK246.out (by decide))) | (dsimp only; exact Kd.own_blk (Kd.R_ne HO_7.out BK246.out (by decide)))) _).trans (hHeld.2.1)), ((cell_far (p := ⟨gb246, _, none⟩) (by first | exact Kd.own_blk (Kd.R_ne HO_7.out BK246.out (by decide)) | (rw [add_block]; exact Kd.own_blk (Kd.R_ne HO_7.out BK246.out (by decide))) | (show (Addr.add _ _).block ≠ _; rw [add_block]; exact Kd.own_blk (Kd.R_ne HO_7.out BK246.out (by decide))) | (dsimp only; exact Kd.own_blk (Kd.R_ne HO_7.out BK246.out (by decide)))) _).trans (hHeld.2.2))⟩ (fun hHeld => ?_)
                clear hK K
                refine pu 13 73 ?_
                refine oq 14 none fun K hK => ?_
                have hs49 := bc BK246 2
                have hfs49 := bf BK246 2
                have hns49_0 := NB245_246.out
                have hms49_0 := NB246_245.out
                refine sk ?_
                refine hK.out _ _ ⟨((cell_far (p := ⟨gb246, _, none⟩) (by first | exact Kd.own_blk (Kd.R_ne HO_7.out BK246.out (by decide)) | (rw [add_block]; exact Kd.own_blk (Kd.R_ne HO_7.out BK246.out (by decide))) | (show (Addr.add _ _).block ≠ _; rw [add_block]; exact Kd.own_blk (Kd.R_ne HO_7.out BK246.out (by decide))) | (dsimp only; exact Kd.own_blk (Kd.R_ne HO_7.out BK246.out (by decide)))) _).trans (hHeld.1)), ((cell_far (p := ⟨gb246, _, none⟩) (by first | exact Kd.own_blk (Kd.R_ne HO_7.out BK246.out (by decide)) | (rw [add_block]; exact Kd.own_blk (Kd.R_ne HO_7.out BK246.out (by decide))) | (show (Addr.add _ _).block ≠ _; rw [add_block]; exact Kd.own_blk (Kd.R_ne HO_7.out BK246.out (by decide))) | (dsimp only; exact Kd.own_blk (Kd.R_ne HO_7.out BK246.out (by decide)))) _).trans (hHeld.2.1)), ((cell_far (p := ⟨gb246, _, none⟩) (by first | exact Kd.own_blk (Kd.R_ne HO_7.out BK246.out (by decide)) | (rw [add_block]; exact Kd.own_blk (Kd.R_ne HO_7.out BK246.out (by decide))) | (show (Addr.add _ _).block ≠ _; rw [add_block]; exact Kd.own_blk (Kd.R_ne HO_7.out BK246.out (by decide))) | (dsimp only; exact Kd.own_blk (Kd.R_ne HO_7.out BK246.out (by decide)))) _).trans (hHeld.2.2))⟩ (fun hHeld => ?_)
                clear hK K
                refine dq ?_
                have hnb50 := NB246_245.out
                have hnc50 := NB245_246.out
                have hcz51_0 := bc BK246 0
                have hcz51_1 := bc BK246 1
                have hcz51_2 := bc BK246 2
                have hcz51_3 := bc BK246 3
                have hfz51_0 := bf BK246 0
                have hfz51_1 := bf BK246 1
                have hfz51_2 := bf BK246 2
                have hfz51_3 := bf BK246 3
                have hcz52_0 := bc BK245 0
                have hcz52_1 := bc BK245 1
                have hcz52_2 := bc BK245 2
                have hcz52_3 := bc BK245 3
                have hfz52_0 := bf BK245 0
                have hfz52_1 := bf BK245 1
                have hfz52_2 := bf BK245 2
                have hfz52_3 := bf BK245 3
                try go_wp2
                refine bodyPost_ret (results_ct rfl _ _ gb245 146 #[.string (rdOf ByteArray.empty t247 0), .string (rdOf ByteArray.empty t247 1), .string (rdOf ByteArray.empty t247 2), .slice none 0 0] (0, 0) _ rfl (by (with_reducible repeat (first | refine blk_drewN ?_ _ | refine blk_drew ?_ | refine blk_alloc ?_ _)); refine blk_put (cs := #[.string (rdOf ByteArray.empty t247 0), .string (rdOf ByteArray.empty t247 1), .string (rdOf ByteArray.empty t247 2), .slice none 0 0]) ?_ 3 _ rfl; (with_reducible repeat (first | refine blk_drewN ?_ _ | refine blk_drew ?_ | refine blk_alloc ?_ _)); refine blk_put (cs := #[.string (rdOf ByteArray.empty t247 0), .string (rdOf ByteArray.empty t247 1), .string (⟨#[]⟩ : ByteArray), .slice none 0 0]) ?_ 2 _ rfl; (with_reducible repeat (first | refine blk_drewN ?_ _ | refine blk_drew ?_ | refine blk_alloc ?_ _)); refine blk_put (cs := #[.string (rdOf ByteArray.empty t247 0), .string (⟨#[]⟩ : ByteArray), .string (⟨#[]⟩ : ByteArray), .slice none 0 0]) ?_ 1 _ rfl; (with_reducible repeat (first | refine blk_drewN ?_ _ | refine blk_drew ?_ | refine blk_alloc ?_ _)); refine blk_put (cs := #[.string (⟨#[]⟩ : ByteArray), .string (⟨#[]⟩ : ByteArray), .string (⟨#[]⟩ : ByteArray), .slice none 0 0]) ?_ 0 _ rfl; (with_reducible repeat (first | refine blk_drewN ?_ _ | refine blk_drew ?_ | refine blk_alloc ?_ _)); refine blk_far ?_ NB245_246.out _; (with_reducible repeat (first | refine blk_drewN ?_ _ | refine blk_drew ?_ | refine blk_alloc ?_ _)); refine blk_far ?_ NB245_246.out _; (with_reducible repeat (first | refine blk_drewN ?_ _ | refine blk_drew ?_ | refine blk_alloc ?_ _)); refine blk_far ?_ NB245_246.out _; (with_reducible repeat (first | refine blk_drewN ?_ _ | refine blk_drew ?_ | refine blk_alloc ?_ _)); exact BK245.out) Tryz.underlying146 rfl (by kernel_rfl)) rfl ?_
                exact ⟨_, by first | rfl | (simp [errW_none, errW_some] <;> rfl) | (simp [*, errW_none, errW_some] <;> rfl), by first | exact Kd.R_nil _ _ _ _ _ | exact Kd.N_nil _ _ _ _ _ | exact Kd.V_nil _ _ _ _ _ | exact Kd.Q_nil _ _ _ _ _ | exact Kd.S_nil _ _ _ _ _, ba HB⟩
               ·rw [if_neg c44] at H
                have c44b0 := beq_eq_false_iff_ne.mpr c44
                have c44b1 := bne_iff_ne.mpr c44
                obtain ⟨ji53, hji53⟩ : ∃ j_ : Int, (wrap64 (x5_2 + 1)) = j_ := ⟨_, rfl⟩
                replace H : (if 0 ≤ (ji53) then (if (ji53) ≤ (a0.size : Int) then ((r01_Parts.f kj21 (a0.extract ((ji53) : Int).toNat a0.size) 46).bind fun t259 => (r03_Split.l1 kj21 0 (rdOf ByteArray.empty t247 0) (rdOf ByteArray.empty t247 1) (rdOf ByteArray.empty t247 2) t259)) else (none)) else (none)) = some (r1, r2, r3, r4, r5) := by first | (rw [hji53] at H; exact H) | (simp only [hji53] at H ⊢; exact H)
                have hji53w : (IntKind.i64.wrap (x5_2 + 1)) = ji53 := (i64_w _).trans hji53
                by_cases c54 : 0 ≤ (ji53)
                ·rw [if_pos c54] at H
                 have c54b0 := eq_true c54
                 have c54b1 : decide (0 ≤ (ji53)) = true := decide_eq_true c54
                 clear c54
                 by_cases c55 : (ji53) ≤ (a0.size : Int)
                 ·rw [if_pos c55] at H
                  have c55b0 := eq_true c55
                  have c55b1 : decide ((ji53) ≤ (a0.size : Int)) = true := decide_eq_true c55
                  clear c55
                  obtain ⟨t259, A56, H⟩ := bo H
                  have H' := Aside0.mk H
                  clear H
                  try go_wp2
                  have n0_ := Aside0.mk (Kd.R_drew HO_7.out)
                  have n1_ := Aside0.mk (blk_drew BK245.out)
                  have n2_ := Aside0.mk (blk_drew BK246.out)
                  have n3_ := Aside0.mk (below_drew1 HB.out)
                  revert n0_ n1_ n2_ n3_
                  clear HO_7 BK245 BK246 HB
                  intro HO_7 BK245 BK246 HB
                  obtain ⟨Ao58, co58, eo58⟩ := Kd.R_slice HO_7.out
                  (first | subst eo58 | (injection eo58 with f1_ f2_ f3_; have f4_ := f1_.symm; have f5_ := f3_.symm; clear f1_ f2_ f3_; subst f4_; subst f5_))
                  have p256 : 0 ≤ (0 : Int) := (by omega)
                  have q256 : 0 < (t247.length : Int) := of_decide_eq_true (by first | (with_reducible assumption) | assumption)
                  obtain ⟨ad256, e256, hx256_0⟩ := Kd.at_string (Kd.R_reads' HO_7.out).2.2 0 p256 q256
                  cases e256
                  have qi256 : (0 < t247.length) = True := eq_true (by omega)
                  (try rw [show ((0 : Int)).toNat = 0 from rfl] at hx256_0)
                  (try rw [Addr.add_zero'] at hx256_0)
                  replace p256 := eq_true p256
                  replace q256 := eq_true q256
                  have p257 : 0 ≤ (1 : Int) := (by omega)
                  have q257 : 1 < (t247.length : Int) := of_decide_eq_true (by first | (with_reducible assumption) | assumption)
                  obtain ⟨ad257, e257, hx257_0⟩ := Kd.at_string (Kd.R_reads' HO_7.out).2.2 1 p257 q257
                  obtain rfl : ad256 = ad257 := (by injection e257)
                  (try simp only [show (1 : Int).toNat = 1 from rfl, Nat.reduceMul, Nat.reduceEqDiff, Go.Addr.add, ↓reduceIte] at hx257_0)
                  have qi257 : (1 < t247.length) = True := eq_true (by omega)
                  (try rw [show ((1 : Int)).toNat = 1 from rfl] at hx257_0)
                  replace p257 := eq_true p257
                  replace q257 := eq_true q257
                  have p258 : 0 ≤ (2 : Int) := (by omega)
                  have q258 : 2 < (t247.length : Int) := of_decide_eq_true (by first | (with_reducible assumption) | assumption)
                  obtain ⟨ad258, e258, hx258_0⟩ := Kd.at_string (Kd.R_reads' HO_7.out).2.2 2 p258 q258
                  obtain rfl : ad256 = ad258 := (by injection e258)
                  (try simp only [show (2 : Int).toNat = 2 from rfl, Nat.reduceMul, Nat.reduceEqDiff, Go.Addr.add, ↓reduceIte] at hx258_0)
                  have qi258 : (2 < t247.length) = True := eq_true (by omega)
                  (try rw [show ((2 : Int)).toNat = 2 from rfl] at hx258_0)
                  replace p258 := eq_true p258
                  replace q258 := eq_true q258
                  refine start_ (n := 15) (S := fun w' => w'.cell? ad256 = some (.string (rdOf ByteArray.empty t247 0)) ∧ w'.cell? ⟨ad256.block, ad256.off + 1, none⟩ = some (.string (rdOf ByteArray.empty t247 1)) ∧ w'.cell? ⟨ad256.block, ad256.off + 2, none⟩ = some (.string (rdOf ByteArray.empty t247 2))) (ds := []) #[false, false, false, false, false, false, false, false, false, false, false, false, false, false, false] (by kernel_rfl) rfl rfl ⟨hx256_0, hx257_0, hx258_0⟩ (fun hHeld => ?_); refine with_tabW r03_Split.tab13 r03_Split.bits13 (fun HT_ HW_ => ?_)
                  generalize wc.drew = w57 at HO_7 BK245 BK246 HB hx256_0 hx257_0 hx258_0 hHeld ⊢
                  refine pu 0 62 ?_
                  refine pu 1 63 ?_
                  refine pu 3 65 ?_
                  refine pu 4 66 ?_
                  refine pu 6 68 ?_
                  refine pu 7 69 ?_
                  refine tk 2 64 ?_
                  refine pu 9 71 ?_
                  refine tk 5 67 ?_
                  refine tk 8 70 ?_
                  refine oq 10 none fun K hK => ?_
                  have hs59 := bc BK246 0
                  have hfs59 := bf BK246 0
                  have hns59_0 := NB245_246.out
                  have hms59_0 := NB246_245.out
                  refine sk ?_
                  refine hK.out _ _ ⟨((cell_far (p := ⟨gb246, _, none⟩) (by first | exact Kd.own_blk (Kd.R_ne HO_7.out BK246.out (by decide)) | (rw [add_block]; exact Kd.own_blk (Kd.R_ne HO_7.out BK246.out (by decide))) | (show (Addr.add _ _).block ≠ _; rw [add_block]; exact Kd.own_blk (Kd.R_ne HO_7.out BK246.out (by decide))) | (dsimp only; exact Kd.own_blk (Kd.R_ne HO_7.out BK246.out (by decide)))) _).trans (hHeld.1)), ((cell_far (p := ⟨gb246, _, none⟩) (by first | exact Kd.own_blk (Kd.R_ne HO_7.out BK246.out (by decide)) | (rw [add_block]; exact Kd.own_blk (Kd.R_ne HO_7.out BK246.out (by decide))) | (show (Addr.add _ _).block ≠ _; rw [add_block]; exact Kd.own_blk (Kd.R_ne HO_7.out BK246.out (by decide))) | (dsimp only; exact Kd.own_blk (Kd.R_ne HO_7.out BK246.out (by decide)))) _).trans (hHeld.2.1)), ((cell_far (p := ⟨gb246, _, none⟩) (by first | exact Kd.own_blk (Kd.R_ne HO_7.out BK246.out (by decide)) | (rw [add_block]; exact Kd.own_blk (Kd.R_ne HO_7.out BK246.out (by decide))) | (show (Addr.add _ _).block ≠ _; rw [add_block]; exact Kd.own_blk (Kd.R_ne HO_7.out BK246.out (by decide))) | (dsimp only; exact Kd.own_blk (Kd.R_ne HO_7.out BK246.out (by decide)))) _).trans (hHeld.2.2))⟩ (fun hHeld => ?_)
                  clear hK K
                  refine pu 11 72 ?_
                  refine oq 12 none fun K hK => ?_
                  have hs60 := bc BK246 1
                  have hfs60 := bf BK246 1
                  have hns60_0 := NB245_246.out
                  have hms60_0 := NB246_245.out
                  refine sk ?_
                  refine hK.out _ _ ⟨((cell_far (p := ⟨gb246, _, none⟩) (by first | exact Kd.own_blk (Kd.R_ne HO_7.out BK246.out (by decide)) | (rw [add_block]; exact Kd.own_blk (Kd.R_ne HO_7.out BK246.out (by decide))) | (show (Addr.add _ _).block ≠ _; rw [add_block]; exact Kd.own_blk (Kd.R_ne HO_7.out BK246.out (by decide))) | (dsimp only; exact Kd.own_blk (Kd.R_ne HO_7.out BK246.out (by decide)))) _).trans (hHeld.1)), ((cell_far (p := ⟨gb246, _, none⟩) (by first | exact Kd.own_blk (Kd.R_ne HO_7.out BK246.out (by decide)) | (rw [add_block]; exact Kd.own_blk (Kd.R_ne HO_7.out BK246.out (by decide))) | (show (Addr.add _ _).block ≠ _; rw [add_block]; exact Kd.own_blk (Kd.R_ne HO_7.out BK246.out (by decide))) | (dsimp only; exact Kd.own_blk (Kd.R_ne HO_7.out BK246.out (by decide)))) _).trans (hHeld.2.1)), ((cell_far (p := ⟨gb246, _, none⟩) (by first | exact Kd.own_blk (Kd.R_ne HO_7.out BK246.out (by decide)) | (rw [add_block]; exact Kd.own_blk (Kd.R_ne HO_7.out BK246.out (by decide))) | (show (Addr.add _ _).block ≠ _; rw [add_block]; exact Kd.own_blk (Kd.R_ne HO_7.out BK246.out (by decide))) | (dsimp only; exact Kd.own_blk (Kd.R_ne HO_7.out BK246.out (by decide)))) _).trans (hHeld.2.2))⟩ (fun hHeld => ?_)
                  clear hK K
                  refine pu 13 73 ?_
                  refine oq 14 none fun K hK => ?_
                  have hs61 := bc BK246 2
                  have hfs61 := bf BK246 2
                  have hns61_0 := NB245_246.out
                  have hms61_0 := NB246_245.out
                  refine sk ?_
                  refine hK.out _ _ ⟨((cell_far (p := ⟨gb246, _, none⟩) (by first | exact Kd.own_blk (Kd.R_ne HO_7.out BK246.out (by decide)) | (rw [add_block]; exact Kd.own_blk (Kd.R_ne HO_7.out BK246.out (by decide))) | (show (Addr.add _ _).block ≠ _; rw [add_block]; exact Kd.own_blk (Kd.R_ne HO_7.out BK246.out (by decide))) | (dsimp only; exact Kd.own_blk (Kd.R_ne HO_7.out BK246.out (by decide)))) _).trans (hHeld.1)), ((cell_far (p := ⟨gb246, _, none⟩) (by first | exact Kd.own_blk (Kd.R_ne HO_7.out BK246.out (by decide)) | (rw [add_block]; exact Kd.own_blk (Kd.R_ne HO_7.out BK246.out (by decide))) | (show (Addr.add _ _).block ≠ _; rw [add_block]; exact Kd.own_blk (Kd.R_ne HO_7.out BK246.out (by decide))) | (dsimp only; exact Kd.own_blk (Kd.R_ne HO_7.out BK246.out (by decide)))) _).trans (hHeld.2.1)), ((cell_far (p := ⟨gb246, _, none⟩) (by first | exact Kd.own_blk (Kd.R_ne HO_7.out BK246.out (by decide)) | (rw [add_block]; exact Kd.own_blk (Kd.R_ne HO_7.out BK246.out (by decide))) | (show (Addr.add _ _).block ≠ _; rw [add_block]; exact Kd.own_blk (Kd.R_ne HO_7.out BK246.out (by decide))) | (dsimp only; exact Kd.own_blk (Kd.R_ne HO_7.out BK246.out (by decide)))) _).trans (hHeld.2.2))⟩ (fun hHeld => ?_)
                  clear hK K
                  refine dq ?_
                  try go_wp2_with (first | ((with_reducible refine gate_callee (f := 97) rfl ?_); refine goesL_ (some 83) rfl rfl Tryz.func97 (by kernel_rfl) rfl #[.string (a0.extract ((ji53) : Int).toNat a0.size), .int .u8 46] rfl (by (try simp only [List.map_toArray, List.map_cons, List.map_nil]); first | done | (simp only [hji53]; rfl) | rfl | (simp only [List.length_drop, List.length_take]; rfl)) ?_; (with_reducible refine (r01_Parts.calls kj21 (a0.extract ((ji53) : Int).toNat a0.size) 46 t259 _ A56.out).mono ?_); rintro e w62 ⟨v260, rfl, ho0, hb⟩; refine ⟨_, rfl, ?_⟩; have n0_ := Aside0.mk (Kd.R_elder' (by (with_reducible repeat (first | apply Kd.R_alloc | apply Kd.R_drewN | apply Kd.R_drew)); exact (Kd.R_mono (Kd.R_far (p := ⟨gb246, 2, none⟩) (Kd.R_far (p := ⟨gb246, 1, none⟩) (Kd.R_far (p := ⟨gb246, 0, none⟩) (Kd.R_types HO_7.out BK246.out (by decide)) (fun _ hk => hk.2) (.string (rdOf ByteArray.empty t247 0))) (fun _ hk => hk.2) (.string (rdOf ByteArray.empty t247 1))) (fun _ hk => hk.2) (.string (rdOf ByteArray.empty t247 2))) (fun _ h_ => h_.1))) (Kd.R_base ho0) hb); have n1_ := Aside0.mk (Kd.R_lower (Kd.R_new' ho0 (Kd.R_lt (by (with_reducible repeat (first | apply Kd.R_alloc | apply Kd.R_drewN | apply Kd.R_drew)); exact (Kd.R_mono (Kd.R_far (p := ⟨gb246, 2, none⟩) (Kd.R_far (p := ⟨gb246, 1, none⟩) (Kd.R_far (p := ⟨gb246, 0, none⟩) (Kd.R_types HO_7.out BK246.out (by decide)) (fun _ hk => hk.2) (.string (rdOf ByteArray.empty t247 0))) (fun _ hk => hk.2) (.string (rdOf ByteArray.empty t247 1))) (fun _ hk => hk.2) (.string (rdOf ByteArray.empty t247 2))) (fun _ h_ => h_.1))))) (bz HB)); have n2_ := Aside0.mk (blk_below (g := gb245) (o := .cells #[.string (⟨#[]⟩ : ByteArray), .string (⟨#[]⟩ : ByteArray), .string (⟨#[]⟩ : ByteArray), .slice none 0 0] 146 (0, 0)) (by (with_reducible repeat (first | refine blk_drewN ?_ _ | refine blk_drew ?_ | refine blk_alloc ?_ _)); refine blk_far ?_ NB245_246.out _; (with_reducible repeat (first | refine blk_drewN ?_ _ | refine blk_drew ?_ | refine blk_alloc ?_ _)); refine blk_far ?_ NB245_246.out _; (with_reducible repeat (first | refine blk_drewN ?_ _ | refine blk_drew ?_ | refine blk_alloc ?_ _)); refine blk_far ?_ NB245_246.out _; (with_reducible repeat (first | refine blk_drewN ?_ _ | refine blk_drew ?_ | refine blk_alloc ?_ _)); exact BK245.out) hb); have n3_ := Aside0.mk (blk_below (g := gb246) (o := .cells #[.string (rdOf ByteArray.empty t247 0), .string (rdOf ByteArray.empty t247 1), .string (rdOf ByteArray.empty t247 2), .slice none 0 0] 146 (0, 0)) (by (with_reducible repeat (first | refine blk_drewN ?_ _ | refine blk_drew ?_ | refine blk_alloc ?_ _)); refine blk_put (cs := #[.string (rdOf ByteArray.empty t247 0), .string (rdOf ByteArray.empty t247 1), .string (⟨#[]⟩ : ByteArray), .slice none 0 0]) ?_ 2 _ rfl; (with_reducible repeat (first | refine blk_drewN ?_ _ | refine blk_drew ?_ | refine blk_alloc ?_ _)); refine blk_put (cs := #[.string (rdOf ByteArray.empty t247 0), .string (⟨#[]⟩ : ByteArray), .string (⟨#[]⟩ : ByteArray), .slice none 0 0]) ?_ 1 _ rfl; (with_reducible repeat (first | refine blk_drewN ?_ _ | refine blk_drew ?_ | refine blk_alloc ?_ _)); refine blk_put (cs := #[.string (⟨#[]⟩ : ByteArray), .string (⟨#[]⟩ : ByteArray), .string (⟨#[]⟩ : ByteArray), .slice none 0 0]) ?_ 0 _ rfl; (with_reducible repeat (first | refine blk_drewN ?_ _ | refine blk_drew ?_ | refine blk_alloc ?_ _)); exact BK246.out) hb); have n4_ := bs HB hb; revert n0_ n1_ n2_ n3_ n4_; clear HO_7 BK245 BK246 HB; intro HO_7 HO261 BK245 BK246 HB; (try clear hb); (try clear ho0); obtain ⟨Ao63, co63, eo63⟩ := Kd.R_slice HO261.out; subst eo63; have hnb64 := NB246_245.out; have hnc64 := NB245_246.out; have hcz65_0 := bc BK246 0; have hcz65_1 := bc BK246 1; have hcz65_2 := bc BK246 2; have hcz65_3 := bc BK246 3; have hfz65_0 := bf BK246 0; have hfz65_1 := bf BK246 1; have hfz65_2 := bf BK246 2; have hfz65_3 := bf BK246 3))
                  go_loopg [8] kj21 (fun kq v8 w' => ∃ (x8_4 : Int) (x246000_4 : ByteArray) (x246001_4 : ByteArray) (x246002_4 : ByteArray), v8 = .int .i64 x8_4 ∧ Aside0 (r03_Split.l1 kq x8_4 (rdOf ByteArray.empty t247 0) (rdOf ByteArray.empty t247 1) (rdOf ByteArray.empty t247 2) t259 = some (r1, r2, r3, r4, r5)) ∧ Aside0 (kq ≤ kj21) ∧ Aside0 (Kd.R Kd.string 9 w' w.heap.size (fun _ => True) (.slice Ao63 t259.length co63) t259) ∧ Aside0 (w'.heap[gb245]? = some (.cells #[.string x246000_4, .string x246001_4, .string x246002_4, (.slice none 0 0)] 146 (0, 0))) ∧ Aside0 (w'.heap[gb246]? = some (.cells #[.string (rdOf ByteArray.empty t247 0), .string (rdOf ByteArray.empty t247 1), .string (rdOf ByteArray.empty t247 2), (.slice Ao63 t259.length co63)] 146 (0, 0))) ∧ Aside0 (Below w.heap.size w w'))
                  case atStart => exact ⟨(0), ((⟨#[]⟩ : ByteArray)), ((⟨#[]⟩ : ByteArray)), ((⟨#[]⟩ : ByteArray)), (by first | rfl | (simp; done) | (simp [*]; done)), H', ⟨Nat.le_refl _⟩, ⟨by (with_reducible repeat (first | apply Kd.R_alloc | apply Kd.R_drewN | apply Kd.R_drew)); exact Kd.R_mono (Kd.R_far (p := ⟨gb246, 3, none⟩) (Kd.R_types HO261.out BK246.out (by decide)) (fun _ hk => hk.2) (.slice Ao63 t259.length co63)) (fun _ hk => trivial)⟩, ⟨by (with_reducible repeat (first | refine blk_drewN ?_ _ | refine blk_drew ?_ | refine blk_alloc ?_ _)); refine blk_far ?_ NB245_246.out _; (with_reducible repeat (first | refine blk_drewN ?_ _ | refine blk_drew ?_ | refine blk_alloc ?_ _)); exact BK245.out⟩, ⟨by (with_reducible repeat (first | refine blk_drewN ?_ _ | refine blk_drew ?_ | refine blk_alloc ?_ _)); refine blk_put (cs := #[.string (rdOf ByteArray.empty t247 0), .string (rdOf ByteArray.empty t247 1), .string (rdOf ByteArray.empty t247 2), .slice none 0 0]) ?_ 3 _ rfl; (with_reducible repeat (first | refine blk_drewN ?_ _ | refine blk_drew ?_ | refine blk_alloc ?_ _)); exact BK246.out⟩, ⟨ba HB⟩⟩
                  case round =>
                   clear H'
                   try clear c1
                   try clear p1
                   try clear q1
                   try clear hx1
                   try clear c2
                   try clear p2
                   try clear q2
                   try clear hx2
                   try clear qi2
                   try clear c3
                   try clear c4
                   try clear c5
                   try clear c6
                   try clear p6
                   try clear c7
                   try clear c7b0
                   try clear c7b1
                   try clear c8
                   try clear c8b0
                   try clear c8b1
                   try clear c9
                   try clear p9
                   try clear q9
                   try clear hx9
                   try clear qi9
                   try clear c10
                   try clear c11
                   try clear c14
                   try clear c14b0
                   try clear c15
                   try clear c15b0
                   try clear c16
                   try clear c16b0
                   try clear p17
                   try clear q17
                   try clear hx17
                   try clear c18
                   try clear c18b0
                   try clear c18b1
                   try clear c19
                   try clear c19b0
                   try clear c19b1
                   try clear c20
                   try clear c20b0
                   try clear c20b1
                   try clear c24
                   try clear c24b0
                   try clear c24b1
                   try clear c25
                   try clear c25b0
                   try clear c25b1
                   try clear p25
                   try clear q25
                   try clear hx25
                   try clear qi25
                   try clear c27
                   try clear c28
                   try clear c28b0
                   try clear c28b1
                   try clear c30
                   try clear c31
                   try clear c31b0
                   try clear c31b1
                   try clear c37
                   try clear c38
                   try clear c41
                   try clear c41b0
                   try clear c41b1
                   try clear c42
                   try clear c42b0
                   try clear c42b1
                   try clear c43
                   try clear c43b0
                   try clear c43b1
                   try clear c44
                   try clear c44b0
                   try clear c44b1
                   try clear c50
                   try clear c54
                   try clear c54b0
                   try clear c54b1
                   try clear c55
                   try clear c55b0
                   try clear c55b1
                   try clear c64
                   try clear p64
                   try clear hcz12_0
                   try clear hcz12_1
                   try clear hcz12_2
                   try clear hcz12_3
                   try clear hcz13_0
                   try clear hcz13_1
                   try clear hcz13_2
                   try clear hcz13_3
                   try clear hcz39_0
                   try clear hcz39_1
                   try clear hcz39_2
                   try clear hcz39_3
                   try clear hcz40_0
                   try clear hcz40_1
                   try clear hcz40_2
                   try clear hcz40_3
                   try clear hcz51_0
                   try clear hcz51_1
                   try clear hcz51_2
                   try clear hcz51_3
                   try clear hcz52_0
                   try clear hcz52_1
                   try clear hcz52_2
                   try clear hcz52_3
                   try clear hcz65_0
                   try clear hcz65_1
                   try clear hcz65_2
                   try clear hcz65_3
                   try clear hcz6_0
                   try clear hcz6_1
                   try clear hcz6_2
                   try clear hcz6_3
                   try clear hfz12_0
                   try clear hfz12_1
                   try clear hfz12_2
                   try clear hfz12_3
                   try clear hfz13_0
                   try clear hfz13_1
                   try clear hfz13_2
                   try clear hfz13_3
                   try clear hfz39_0
                   try clear hfz39_1
                   try clear hfz39_2
                   try clear hfz39_3
                   try clear hfz40_0
                   try clear hfz40_1
                   try clear hfz40_2
                   try clear hfz40_3
                   try clear hfz51_0
                   try clear hfz51_1
                   try clear hfz51_2
                   try clear hfz51_3
                   try clear hfz52_0
                   try clear hfz52_1
                   try clear hfz52_2
                   try clear hfz52_3
                   try clear hfz65_0
                   try clear hfz65_1
                   try clear hfz65_2
                   try clear hfz65_3
                   try clear hfz6_0
                   try clear hfz6_1
                   try clear hfz6_2
                   try clear hfz6_3
                   try clear hx250_0
                   try clear hx252_0
                   try clear hx254_0
                   try clear hx256_0
                   try clear hx257_0
                   try clear hx258_0
                   try clear p1
                   try clear p17
                   try clear p2
                   try clear p25
                   try clear p250
                   try clear p252
                   try clear p254
                   try clear p256
                   try clear p257
                   try clear p258
                   try clear p6
                   try clear p9
                   try clear q1
                   try clear q17
                   try clear q2
                   try clear q25
                   try clear q250
                   try clear q252
                   try clear q254
                   try clear q256
                   try clear q257
                   try clear q258
                   try clear q9
                   obtain ⟨x8_4, x246000_4, x246001_4, x246002_4, rfl, HA, HK4, HO_247003, BK245, BK246, HB⟩ := hrel
                   cases gk with
                   | zero => exact absurd HA.out (by simp [r03_Split.l1])
                   | succ k4 =>
                    have H := HA.out
                    clear HA
                    simp only [r03_Split.l1] at H
                    by_cases c66 : x8_4 < (t259.length : Int)
                    ·rw [if_pos c66] at H
                     have c66b0 : decide (x8_4 < (t259.length : Int)) = true := decide_eq_true c66
                     clear c66
                     by_cases c67 : 0 ≤ x8_4
                     ·rw [if_pos c67] at H
                      have c67b0 : decide (0 ≤ x8_4) = true := decide_eq_true c67
                      clear c67
                      obtain ⟨t263, A68, H⟩ := bo H
                      by_cases c69 : t263 = true
                      ·subst c69
                       replace H := it H
                       have H' := Aside0.mk H
                       clear H
                       have hnb70 := NB246_245.out
                       have hnc70 := NB245_246.out
                       have hcz71_0 := bc BK246 0
                       have hcz71_1 := bc BK246 1
                       have hcz71_2 := bc BK246 2
                       have hcz71_3 := bc BK246 3
                       have hfz71_0 := bf BK246 0
                       have hfz71_1 := bf BK246 1
                       have hfz71_2 := bf BK246 2
                       have hfz71_3 := bf BK246 3
                       have p262 : 0 ≤ (x8_4 : Int) := of_decide_eq_true (by first | (with_reducible assumption) | assumption)
                       have q262 : x8_4 < (t259.length : Int) := of_decide_eq_true (by first | (with_reducible assumption) | assumption)
                       obtain ⟨ad262, e262, hx262_0⟩ := Kd.at_string (Kd.R_reads' HO_247003.out).2.2 x8_4 p262 q262
                       cases e262
                       replace p262 := eq_true p262
                       replace q262 := eq_true q262
                       go_wp2_with (first | ((with_reducible refine gate_callee (f := 152) rfl ?_); refine gl 97 Tryz.func152 #[.string (rdOf ByteArray.empty t259 x8_4)] ?_; (with_reducible refine (r03_Word.calls k4 (rdOf ByteArray.empty t259 x8_4) true _ A68.out).mono ?_); rintro e w' ⟨rfl, ⟨nd, rfl⟩⟩; refine ⟨_, rfl, ?_⟩))
                       go_roundg k4
                       case measure => have := HJ1.out; have := HK2.out; have := HJ21.out; have := HK4.out; omega
                       case rel => exact ⟨(wrap64 (x8_4 + 1)), (x246000_4), (x246001_4), (x246002_4), (by first | rfl | (simp; done) | (simp [*]; done)), H', ⟨by have := HJ1.out; have := HK2.out; have := HJ21.out; have := HK4.out; omega⟩, ⟨ra HO_247003⟩, ⟨by (with_reducible repeat (first | refine blk_drewN ?_ _ | refine blk_drew ?_ | refine blk_alloc ?_ _)); exact BK245.out⟩, ⟨by (with_reducible repeat (first | refine blk_drewN ?_ _ | refine blk_drew ?_ | refine blk_alloc ?_ _)); exact BK246.out⟩, ⟨ba HB⟩⟩
                      ·replace c69 := Bool.eq_false_iff.mpr c69
                       subst c69
                       replace H := jf H
                       simp only [Option.some.injEq, Prod.mk.injEq] at H
                       obtain ⟨rfl, rfl, rfl, rfl, rfl⟩ := H
                       have hnb72 := NB246_245.out
                       have hnc72 := NB245_246.out
                       have hcz73_0 := bc BK246 0
                       have hcz73_1 := bc BK246 1
                       have hcz73_2 := bc BK246 2
                       have hcz73_3 := bc BK246 3
                       have hfz73_0 := bf BK246 0
                       have hfz73_1 := bf BK246 1
                       have hfz73_2 := bf BK246 2
                       have hfz73_3 := bf BK246 3
                       have p262 : 0 ≤ (x8_4 : Int) := of_decide_eq_true (by first | (with_reducible assumption) | assumption)
                       have q262 : x8_4 < (t259.length : Int) := of_decide_eq_true (by first | (with_reducible assumption) | assumption)
                       obtain ⟨ad262, e262, hx262_0⟩ := Kd.at_string (Kd.R_reads' HO_247003.out).2.2 x8_4 p262 q262
                       cases e262
                       replace p262 := eq_true p262
                       replace q262 := eq_true q262
                       go_wp2_with (first | ((with_reducible refine gate_callee (f := 152) rfl ?_); refine gl 97 Tryz.func152 #[.string (rdOf ByteArray.empty t259 x8_4)] ?_; (with_reducible refine (r03_Word.calls k4 (rdOf ByteArray.empty t259 x8_4) false _ A68.out).mono ?_); rintro e w' ⟨rfl, ⟨nd, rfl⟩⟩; refine ⟨_, rfl, ?_⟩; (try (rw [drewN_self wr]; generalize hq_ : World.drewN wr _ = wr; have n0_ : Aside0 (Kd.R Kd.string 9 wr w.heap.size (fun _ => True) (.slice (some ad262) t259.length co63) t259) := ⟨by rw [← hq_]; exact (ra HO_247003)⟩; have n1_ : Aside0 (wr.heap[gb245]? = some (.cells #[.string x246000_4, .string x246001_4, .string x246002_4, .slice none 0 0] 146 (0, 0))) := ⟨by rw [← hq_]; exact (bk BK245)⟩; have n2_ : Aside0 (wr.heap[gb246]? = some (.cells #[.string (rdOf ByteArray.empty t247 0), .string (rdOf ByteArray.empty t247 1), .string (rdOf ByteArray.empty t247 2), .slice (some ad262) t259.length co63] 146 (0, 0))) := ⟨by rw [← hq_]; exact (bk BK246)⟩; have n3_ : Aside0 (Below w.heap.size w wr) := ⟨by rw [← hq_]; exact (ba HB)⟩; clear HO_247003 BK245 BK246 HB hq_; revert n0_ n1_ n2_ n3_; intro HO_247003 BK245 BK246 HB)); have hcz74_0 := bc BK245 0; have hcz74_1 := bc BK245 1; have hcz74_2 := bc BK245 2; have hcz74_3 := bc BK245 3; have hfz74_0 := bf BK245 0; have hfz74_1 := bf BK245 1; have hfz74_2 := bf BK245 2; have hfz74_3 := bf BK245 3))
                       refine bodyPost_ret (results_ct rfl _ _ gb245 146 #[.string (⟨#[]⟩ : ByteArray), .string (⟨#[]⟩ : ByteArray), .string (⟨#[]⟩ : ByteArray), .slice none 0 0] (0, 0) _ rfl (by (with_reducible repeat (first | refine blk_drewN ?_ _ | refine blk_drew ?_ | refine blk_alloc ?_ _)); refine blk_put (cs := #[.string (⟨#[]⟩ : ByteArray), .string (⟨#[]⟩ : ByteArray), .string (⟨#[]⟩ : ByteArray), .slice none 0 0]) ?_ 3 _ rfl; (with_reducible repeat (first | refine blk_drewN ?_ _ | refine blk_drew ?_ | refine blk_alloc ?_ _)); refine blk_put (cs := #[.string (⟨#[]⟩ : ByteArray), .string (⟨#[]⟩ : ByteArray), .string x246002_4, .slice none 0 0]) ?_ 2 _ rfl; (with_reducible repeat (first | refine blk_drewN ?_ _ | refine blk_drew ?_ | refine blk_alloc ?_ _)); refine blk_put (cs := #[.string (⟨#[]⟩ : ByteArray), .string x246001_4, .string x246002_4, .slice none 0 0]) ?_ 1 _ rfl; (with_reducible repeat (first | refine blk_drewN ?_ _ | refine blk_drew ?_ | refine blk_alloc ?_ _)); refine blk_put (cs := #[.string x246000_4, .string x246001_4, .string x246002_4, .slice none 0 0]) ?_ 0 _ rfl; (with_reducible repeat (first | refine blk_drewN ?_ _ | refine blk_drew ?_ | refine blk_alloc ?_ _)); exact BK245.out) Tryz.underlying146 rfl (by kernel_rfl)) rfl ?_
                       exact ⟨_, by first | rfl | (simp [errW_none, errW_some] <;> rfl) | (simp only [← hji53]; first | rfl | (simp [errW_none, errW_some] <;> rfl)) | (simp [*, errW_none, errW_some] <;> rfl), by first | exact Kd.R_nil _ _ _ _ _ | exact Kd.N_nil _ _ _ _ _ | exact Kd.V_nil _ _ _ _ _ | exact Kd.Q_nil _ _ _ _ _ | exact Kd.S_nil _ _ _ _ _, ba HB⟩
                     ·rw [if_neg c67] at H
                      exact absurd H (by simp)
                    ·rw [if_neg c66] at H
                     have c66b0 : decide (x8_4 < (t259.length : Int)) = false := decide_eq_false c66
                     clear c66
                     simp only [Option.some.injEq, Prod.mk.injEq] at H
                     obtain ⟨rfl, rfl, rfl, rfl, rfl⟩ := H
                     have hnb75 := NB246_245.out
                     have hnc75 := NB245_246.out
                     have hcz76_0 := bc BK246 0
                     have hcz76_1 := bc BK246 1
                     have hcz76_2 := bc BK246 2
                     have hcz76_3 := bc BK246 3
                     have hfz76_0 := bf BK246 0
                     have hfz76_1 := bf BK246 1
                     have hfz76_2 := bf BK246 2
                     have hfz76_3 := bf BK246 3
                     have hcz77_0 := bc BK245 0
                     have hcz77_1 := bc BK245 1
                     have hcz77_2 := bc BK245 2
                     have hcz77_3 := bc BK245 3
                     have hfz77_0 := bf BK245 0
                     have hfz77_1 := bf BK245 1
                     have hfz77_2 := bf BK245 2
                     have hfz77_3 := bf BK245 3
                     go_wp2
                     refine bodyPost_ret (results_ct rfl _ _ gb245 146 #[.string (rdOf ByteArray.empty t247 0), .string (rdOf ByteArray.empty t247 1), .string (rdOf ByteArray.empty t247 2), .slice Ao63 t259.length co63] (0, 0) _ rfl (by (with_reducible repeat (first | refine blk_drewN ?_ _ | refine blk_drew ?_ | refine blk_alloc ?_ _)); refine blk_put (cs := #[.string (rdOf ByteArray.empty t247 0), .string (rdOf ByteArray.empty t247 1), .string (rdOf ByteArray.empty t247 2), .slice none 0 0]) ?_ 3 _ rfl; (with_reducible repeat (first | refine blk_drewN ?_ _ | refine blk_drew ?_ | refine blk_alloc ?_ _)); refine blk_put (cs := #[.string (rdOf ByteArray.empty t247 0), .string (rdOf ByteArray.empty t247 1), .string x246002_4, .slice none 0 0]) ?_ 2 _ rfl; (with_reducible repeat (first | refine blk_drewN ?_ _ | refine blk_drew ?_ | refine blk_alloc ?_ _)); refine blk_put (cs := #[.string (rdOf ByteArray.empty t247 0), .string x246001_4, .string x246002_4, .slice none 0 0]) ?_ 1 _ rfl; (with_reducible repeat (first | refine blk_drewN ?_ _ | refine blk_drew ?_ | refine blk_alloc ?_ _)); refine blk_put (cs := #[.string x246000_4, .string x246001_4, .string x246002_4, .slice none 0 0]) ?_ 0 _ rfl; (with_reducible repeat (first | refine blk_drewN ?_ _ | refine blk_drew ?_ | refine blk_alloc ?_ _)); exact BK245.out) Tryz.underlying146 rfl (by kernel_rfl)) rfl ?_
                     exact ⟨_, by first | rfl | (simp [errW_none, errW_some] <;> rfl) | (simp only [← hji53]; first | rfl | (simp [errW_none, errW_some] <;> rfl)) | (simp [*, errW_none, errW_some] <;> rfl), by (with_reducible repeat (first | apply Kd.R_alloc | apply Kd.R_drewN | apply Kd.R_drew)); exact Kd.R_mono (Kd.R_far (p := ⟨gb245, 3, none⟩) (Kd.R_far (p := ⟨gb245, 2, none⟩) (Kd.R_far (p := ⟨gb245, 1, none⟩) (Kd.R_far (p := ⟨gb245, 0, none⟩) (Kd.R_types HO_247003.out BK245.out (by decide)) (fun _ hk => hk.2) (.string (rdOf ByteArray.empty t247 0))) (fun _ hk => hk.2) (.string (rdOf ByteArray.empty t247 1))) (fun _ hk => hk.2) (.string (rdOf ByteArray.empty t247 2))) (fun _ hk => hk.2) (.slice Ao63 t259.length co63)) (fun _ hk => trivial), ba HB⟩
                 ·rw [if_neg c55] at H
                  exact absurd H (by simp)
                ·rw [if_neg c54] at H
                 exact absurd H (by simp)
              ·rw [if_neg c43] at H
               exact absurd H (by simp)
             ·rw [if_neg c42] at H
              exact absurd H (by simp)
            ·rw [if_neg c41] at H
             exact absurd H (by simp)
        ·rw [if_neg c20] at H
         exact absurd H (by simp)
       ·rw [if_neg c19] at H
        exact absurd H (by simp)
end Go.Proofs.YtjfcmkddeglghaaGreatDoor.G
end
section
namespace Go.Proofs.YtjfcmkddeglghaaGreatDoor.G
open Go.RowKit Go.Proofs.YtjfcmkddeglghaaGreatDoorW.PrintWords Go.Proofs.YtjfcmkddeglghaaGreatDoorW.PrintLast Go.Proofs.YtjfcmkddeglghaaGreatDoorW.PrintMore
attribute [local go_sem] max2_int min2_int max_two min_two max_three min_three max_four min_four
set_option linter.unusedVariables false
set_option linter.unusedSimpArgs false
def r02_at.f (a0 : ByteArray) (a1 : Int) : Option (Int) := if a1 ≥ (a0.size : Int) then (some 0) else (if 0 ≤ (wrap64 ((wrap64 ((a0.size : Int) - 1)) - a1)) then (if (wrap64 ((wrap64 ((a0.size : Int) - 1)) - a1)) < (a0.size : Int) then ((r02_digit.f (bt a0 (wrap64 ((wrap64 ((a0.size : Int) - 1)) - a1)))).bind fun t287 => (some t287)) else (none)) else (none))
set_option maxHeartbeats 8000000 in
set_option maxRecDepth 100000 in
theorem r02_at.calls (a0 : ByteArray) (a1 : Int) (r : Int) (w : World) (h : r02_at.f a0 a1 = some r) :
  Calls Tryz.prog 153 #[.string a0, .int .i64 a1] w fun e w' => e = .returned (.int .i64 r) ∧ Drawn0 w w' := by
 have H : (if a1 ≥ (a0.size : Int) then (some 0) else (if 0 ≤ (wrap64 ((wrap64 ((a0.size : Int) - 1)) - a1)) then (if (wrap64 ((wrap64 ((a0.size : Int) - 1)) - a1)) < (a0.size : Int) then ((r02_digit.f (bt a0 (wrap64 ((wrap64 ((a0.size : Int) - 1)) - a1)))).bind fun t287 => (some t287)) else (none)) else (none))) = some r := h
 clear h
 by_cases c3 : a1 ≥ (a0.size : Int)
 ·rw [if_pos c3] at H
  have c3b0 : decide ((a0.size : Int) ≤ a1) = true := decide_eq_true c3
  clear c3
  obtain rfl := Option.some.inj H
  go_enter Tryz.func153, Tryz.ntmps153
  go_wp2
  go_ret
  exact ⟨by first | rfl | (simp; done) | (simp [*]; done), by repeat (first | exact Drawn0.refl _ | apply Drawn0.step)⟩
 ·rw [if_neg c3] at H
  have c3b0 : decide ((a0.size : Int) ≤ a1) = false := decide_eq_false c3
  clear c3
  obtain ⟨ji4, hji4⟩ : ∃ j_ : Int, (wrap64 ((wrap64 ((a0.size : Int) - 1)) - a1)) = j_ := ⟨_, rfl⟩
  replace H : (if 0 ≤ (ji4) then (if (ji4) < (a0.size : Int) then ((r02_digit.f (bt a0 (ji4))).bind fun t287 => (some t287)) else (none)) else (none)) = some r := by first | (rw [hji4] at H; exact H) | (simp only [hji4] at H ⊢; exact H)
  have hji4w : (IntKind.i64.wrap ((wrap64 ((a0.size : Int) - 1)) - a1)) = ji4 := (i64_w _).trans hji4
  by_cases c5 : 0 ≤ (ji4)
  ·rw [if_pos c5] at H
   have c5b0 : decide (0 ≤ (ji4)) = true := decide_eq_true c5
   clear c5
   by_cases c6 : (ji4) < (a0.size : Int)
   ·rw [if_pos c6] at H
    have c6b0 : decide ((ji4) < (a0.size : Int)) = true := decide_eq_true c6
    clear c6
    obtain ⟨t287, A8, H⟩ := bo H
    obtain rfl := Option.some.inj H
    have p7 : 0 ≤ ((ji4) : Int) := of_decide_eq_true (by first | (with_reducible assumption) | assumption)
    have q7 : (ji4) < (a0.size : Int) := of_decide_eq_true (by first | (with_reducible assumption) | assumption)
    have hx7 := bt_at a0 (ji4)
    replace p7 := eq_true p7
    replace q7 := eq_true q7
    go_enter Tryz.func153, Tryz.ntmps153
    go_wp2_with (first | ((with_reducible refine gate_callee (f := 175) rfl ?_); refine goesL_ (some 16) rfl rfl Tryz.func175 (by kernel_rfl) rfl #[.int .u8 (bt a0 (ji4))] rfl (by (try simp only [List.map_toArray, List.map_cons, List.map_nil]); first | done | (simp only [hji4]; rfl) | rfl | (simp only [List.length_drop, List.length_take]; rfl)) ?_; (with_reducible refine (r02_digit.calls (bt a0 (ji4)) t287 _ A8.out).mono ?_); rintro e w' ⟨rfl, ⟨nd, rfl⟩⟩; refine ⟨_, rfl, ?_⟩))
    go_ret
    exact ⟨by first | rfl | (simp; done) | (simp only [← hji4] <;> (first | rfl | simp)) | (simp [*]; done), by repeat (first | exact Drawn0.refl _ | apply Drawn0.step)⟩
   ·rw [if_neg c6] at H
    exact absurd H (by simp)
  ·rw [if_neg c5] at H
   exact absurd H (by simp)
end Go.Proofs.YtjfcmkddeglghaaGreatDoor.G
end
section
namespace Go.Proofs.YtjfcmkddeglghaaGreatDoor.G
open Go.RowKit Go.Proofs.YtjfcmkddeglghaaGreatDoorW.PrintWords Go.Proofs.YtjfcmkddeglghaaGreatDoorW.PrintLast Go.Proofs.YtjfcmkddeglghaaGreatDoorW.PrintMore
attribute [local go_sem] max2_int min2_int max_two min_two max_three min_three max_four min_four
set_option linter.unusedVariables false
set_option linter.unusedSimpArgs false
def r02_Cmp.l0 : Nat → ByteArray → ByteArray → Int → Option (Int)
 | 0, _, _, _ => none
 | k + 1, x0, x1, x5 => if x5 ≥ 0 then ((r02_at.f x0 x5).bind fun t288 => ((r02_at.f x1 x5).bind fun t289 => (if t288 < t289 then (some (-1)) else ((r02_at.f x0 x5).bind fun t290 => ((r02_at.f x1 x5).bind fun t291 => (if t290 > t291 then (some 1) else (r02_Cmp.l0 k x0 x1 (wrap64 (x5 - 1))))))))) else (some 0)
def r02_Cmp.f (k : Nat) (a0 : ByteArray) (a1 : ByteArray) : Option (Int) := r02_Cmp.l0 k a0 a1 (wrap64 ((mx (a0.size : Int) (a1.size : Int)) - 1))
set_option maxHeartbeats 8000000 in
set_option maxRecDepth 100000 in
theorem r02_Cmp.calls (k : Nat) (a0 : ByteArray) (a1 : ByteArray) (r : Int) (w : World) (h : r02_Cmp.f k a0 a1 = some r) :
  Calls Tryz.prog 117 #[.string a0, .string a1] w fun e w' => e = .returned (.int .i64 r) ∧ Below w.heap.size w w' := by
 have HB := Aside0.mk (Below.refl w.heap.size w)
 have H : (r02_Cmp.l0 k a0 a1 (wrap64 ((mx (a0.size : Int) (a1.size : Int)) - 1))) = some r := h
 clear h
 obtain ⟨ji3, hji3⟩ : ∃ j_ : Int, (mx (a0.size : Int) (a1.size : Int)) = j_ := ⟨_, rfl⟩
 replace H : (r02_Cmp.l0 k a0 a1 (wrap64 ((ji3) - 1))) = some r := by first | (rw [hji3] at H; exact H) | (simp only [hji3] at H ⊢; exact H)
 (try (have hji3l : 0 ≤ ji3 := by (rw [← hji3]; unfold mx; (repeat' split) <;> omega)))
 (try (have hji3m : 0 ≤ ji3 := by omega))
 have hji3_ : (if (a0.size : Int) < (a1.size : Int) then (a1.size : Int) else (a0.size : Int)) = ji3 := hji3
 (try (have hji3n := hji3_; simp only [Int.ofNat_lt] at hji3n))
 have H' := Aside0.mk H
 clear H
 go_enter Tryz.func117, Tryz.ntmps117
 go_wp2
 go_loopg [5] k (fun kq v5 w' => ∃ (x5_1 : Int), v5 = .int .i64 x5_1 ∧ Aside0 (r02_Cmp.l0 kq a0 a1 x5_1 = some r) ∧ Aside0 (kq ≤ k) ∧ Aside0 (Below w.heap.size w w'))
 case atStart => exact ⟨(wrap64 ((ji3) - 1)), (by first | rfl | (simp; done) | (simp only [← hji3] <;> (first | rfl | simp)) | (simp [*]; done)), H', ⟨Nat.le_refl _⟩, ⟨ba HB⟩⟩
 case round =>
  clear H'
  try clear c1
  try clear p2
  obtain ⟨x5_1, rfl, HA, HK1, HB⟩ := hrel
  cases gk with
  | zero => exact absurd HA.out (by simp [r02_Cmp.l0])
  | succ k1 =>
   have H := HA.out
   clear HA
   simp only [r02_Cmp.l0] at H
   by_cases c4 : x5_1 ≥ 0
   ·rw [if_pos c4] at H
    have c4b0 : decide (0 ≤ x5_1) = true := decide_eq_true c4
    clear c4
    obtain ⟨t288, A5, H⟩ := bo H
    obtain ⟨t289, A6, H⟩ := bo H
    by_cases c7 : t288 < t289
    ·rw [if_pos c7] at H
     have c7b0 : decide (t288 < t289) = true := decide_eq_true c7
     clear c7
     obtain rfl := Option.some.inj H
     go_wp2_with (first | ((with_reducible refine gate_callee (f := 153) rfl ?_); refine gl 18 Tryz.func153 #[.string a0, .int .i64 x5_1] ?_; (with_reducible refine (r02_at.calls a0 x5_1 t288 _ A5.out).mono ?_); rintro e w' ⟨rfl, ⟨nd, rfl⟩⟩; refine ⟨_, rfl, ?_⟩) | ((with_reducible refine gate_callee (f := 153) rfl ?_); refine gl 21 Tryz.func153 #[.string a1, .int .i64 x5_1] ?_; (with_reducible refine (r02_at.calls a1 x5_1 t289 _ A6.out).mono ?_); rintro e w' ⟨rfl, ⟨nd, rfl⟩⟩; refine ⟨_, rfl, ?_⟩))
     go_ret
     exact ⟨by first | rfl | (simp [errW_none, errW_some] <;> rfl) | (simp only [← hji3]; first | rfl | (simp [errW_none, errW_some] <;> rfl)) | (simp [*, errW_none, errW_some] <;> rfl), ba HB⟩
    ·rw [if_neg c7] at H
     have c7b0 : decide (t288 < t289) = false := decide_eq_false c7
     clear c7
     obtain ⟨t290, A8, H⟩ := bo H
     obtain ⟨t291, A9, H⟩ := bo H
     by_cases c10 : t290 > t291
     ·rw [if_pos c10] at H
      have c10b0 : decide (t291 < t290) = true := decide_eq_true c10
      clear c10
      obtain rfl := Option.some.inj H
      go_wp2_with (first | ((with_reducible refine gate_callee (f := 153) rfl ?_); refine gl 18 Tryz.func153 #[.string a0, .int .i64 x5_1] ?_; (with_reducible refine (r02_at.calls a0 x5_1 t288 _ A5.out).mono ?_); rintro e w' ⟨rfl, ⟨nd, rfl⟩⟩; refine ⟨_, rfl, ?_⟩) | ((with_reducible refine gate_callee (f := 153) rfl ?_); refine gl 21 Tryz.func153 #[.string a1, .int .i64 x5_1] ?_; (with_reducible refine (r02_at.calls a1 x5_1 t289 _ A6.out).mono ?_); rintro e w' ⟨rfl, ⟨nd, rfl⟩⟩; refine ⟨_, rfl, ?_⟩) | ((with_reducible refine gate_callee (f := 153) rfl ?_); refine gl 25 Tryz.func153 #[.string a0, .int .i64 x5_1] ?_; (with_reducible refine (r02_at.calls a0 x5_1 t290 _ A8.out).mono ?_); rintro e w' ⟨rfl, ⟨nd, rfl⟩⟩; refine ⟨_, rfl, ?_⟩) | ((with_reducible refine gate_callee (f := 153) rfl ?_); refine gl 28 Tryz.func153 #[.string a1, .int .i64 x5_1] ?_; (with_reducible refine (r02_at.calls a1 x5_1 t291 _ A9.out).mono ?_); rintro e w' ⟨rfl, ⟨nd, rfl⟩⟩; refine ⟨_, rfl, ?_⟩))
      go_ret
      exact ⟨by first | rfl | (simp [errW_none, errW_some] <;> rfl) | (simp only [← hji3]; first | rfl | (simp [errW_none, errW_some] <;> rfl)) | (simp [*, errW_none, errW_some] <;> rfl), ba HB⟩
     ·rw [if_neg c10] at H
      have c10b0 : decide (t291 < t290) = false := decide_eq_false c10
      clear c10
      have H' := Aside0.mk H
      clear H
      go_wp2_with (first | ((with_reducible refine gate_callee (f := 153) rfl ?_); refine gl 18 Tryz.func153 #[.string a0, .int .i64 x5_1] ?_; (with_reducible refine (r02_at.calls a0 x5_1 t288 _ A5.out).mono ?_); rintro e w' ⟨rfl, ⟨nd, rfl⟩⟩; refine ⟨_, rfl, ?_⟩) | ((with_reducible refine gate_callee (f := 153) rfl ?_); refine gl 21 Tryz.func153 #[.string a1, .int .i64 x5_1] ?_; (with_reducible refine (r02_at.calls a1 x5_1 t289 _ A6.out).mono ?_); rintro e w' ⟨rfl, ⟨nd, rfl⟩⟩; refine ⟨_, rfl, ?_⟩) | ((with_reducible refine gate_callee (f := 153) rfl ?_); refine gl 25 Tryz.func153 #[.string a0, .int .i64 x5_1] ?_; (with_reducible refine (r02_at.calls a0 x5_1 t290 _ A8.out).mono ?_); rintro e w' ⟨rfl, ⟨nd, rfl⟩⟩; refine ⟨_, rfl, ?_⟩) | ((with_reducible refine gate_callee (f := 153) rfl ?_); refine gl 28 Tryz.func153 #[.string a1, .int .i64 x5_1] ?_; (with_reducible refine (r02_at.calls a1 x5_1 t291 _ A9.out).mono ?_); rintro e w' ⟨rfl, ⟨nd, rfl⟩⟩; refine ⟨_, rfl, ?_⟩))
      go_roundg k1
      case measure => have := HK1.out; omega
      case rel => exact ⟨(wrap64 (x5_1 - 1)), (by first | rfl | (simp; done) | (simp [*]; done)), H', ⟨by have := HK1.out; omega⟩, ⟨ba HB⟩⟩
   ·rw [if_neg c4] at H
    have c4b0 : decide (0 ≤ x5_1) = false := decide_eq_false c4
    clear c4
    obtain rfl := Option.some.inj H
    go_wp2
    go_ret
    exact ⟨by first | rfl | (simp [errW_none, errW_some] <;> rfl) | (simp only [← hji3]; first | rfl | (simp [errW_none, errW_some] <;> rfl)) | (simp [*, errW_none, errW_some] <;> rfl), ba HB⟩
end Go.Proofs.YtjfcmkddeglghaaGreatDoor.G
end
section
namespace Go.Proofs.YtjfcmkddeglghaaGreatDoor.G
open Go.RowKit Go.Proofs.YtjfcmkddeglghaaGreatDoorW.PrintWords Go.Proofs.YtjfcmkddeglghaaGreatDoorW.PrintLast Go.Proofs.YtjfcmkddeglghaaGreatDoorW.PrintMore
attribute [local go_sem] max2_int min2_int max_two min_two max_three min_three max_four min_four
set_option linter.unusedVariables false
set_option linter.unusedSimpArgs false
def r03_words.j0 : Nat → ByteArray → ByteArray → Bool → Bool → Bool → Option (Int)
 | 0, _, _, _, _, _ => none
 | k + 1, x0, x1, x5, x6, x14 => if x14 = true then ((r02_Cmp.f k x0 x1).bind fun t294 => (some t294)) else (if x5 = true then (some (-1)) else (if x6 = true then (some 1) else ((r01_Cmp.f k x0 x1).bind fun t295 => (some t295))))
def r03_words.f (k : Nat) (a0 : ByteArray) (a1 : ByteArray) : Option (Int) := (r02_May.f k a0).bind fun t292 => ((r02_May.f k a1).bind fun t293 => (if t292 = true then (r03_words.j0 k a0 a1 t292 t293 t293) else (r03_words.j0 k a0 a1 t292 t293 false)))
set_option maxHeartbeats 8000000 in
set_option maxRecDepth 100000 in
theorem r03_words.calls (k : Nat) (a0 : ByteArray) (a1 : ByteArray) (r : Int) (w : World) (h : r03_words.f k a0 a1 = some r) :
  Calls Tryz.prog 118 #[.string a0, .string a1] w fun e w' => e = .returned (.int .i64 r) ∧ Below w.heap.size w w' := by
 have HB := Aside0.mk (Below.refl w.heap.size w)
 have H : ((r02_May.f k a0).bind fun t292 => ((r02_May.f k a1).bind fun t293 => (if t292 = true then (r03_words.j0 k a0 a1 t292 t293 t293) else (r03_words.j0 k a0 a1 t292 t293 false)))) = some r := h
 clear h
 obtain ⟨t292, A3, H⟩ := bo H
 obtain ⟨t293, A4, H⟩ := bo H
 have HC5 := Aside0.mk H
 clear H
 go_enter Tryz.func118, Tryz.ntmps118
 go_upto_region 2 with (first | ((with_reducible refine gate_callee (f := 151) rfl ?_); refine gl 8 Tryz.func151 #[.string a0] ?_; (with_reducible refine (r02_May.calls k a0 t292 _ A3.out).mono ?_); rintro e w' ⟨rfl, ⟨nd, rfl⟩⟩; refine ⟨_, rfl, ?_⟩) | ((with_reducible refine gate_callee (f := 151) rfl ?_); refine gl 10 Tryz.func151 #[.string a1] ?_; (with_reducible refine (r02_May.calls k a1 t293 _ A4.out).mono ?_); rintro e w' ⟨rfl, ⟨nd, rfl⟩⟩; refine ⟨_, rfl, ?_⟩))
 (try simp only [Act.put, List.setIfInBounds_toArray, List.set_cons_zero, List.set_cons_succ])
 go_cut [14] (fun v14 wc => ∃ (kq : Nat) (x14_4 : Bool), v14 = .bool x14_4 ∧ Aside0 (r03_words.j0 kq a0 a1 t292 t293 x14_4 = some r) ∧ Aside0 (kq ≤ k) ∧ Aside0 (Below w.heap.size w wc))
 case first =>
  have H := HC5.out
  clear HC5
  by_cases c6 : t292 = true
  ·subst c6
   replace H := it H
   have H' := Aside0.mk H
   clear H
   go_wp2
   go_meet
   case rel => exact ⟨_, (t293), (by first | rfl | (simp; done) | (simp [*]; done)), H', ⟨by first | omega | exact Nat.le_refl _⟩, ⟨ba HB⟩⟩
  ·replace c6 := Bool.eq_false_iff.mpr c6
   subst c6
   replace H := jf H
   have H' := Aside0.mk H
   clear H
   go_wp2
   go_meet
   case rel => exact ⟨_, (false), (by first | rfl | (simp; done) | (simp [*]; done)), H', ⟨by first | omega | exact Nat.le_refl _⟩, ⟨ba HB⟩⟩
 case rest =>
  clear HC5
  try clear c1
  try clear p2
  try clear c6
  obtain ⟨kq, x14_4, rfl, HA, HJ4, HB⟩ := hcut
  cases kq with
  | zero => exact absurd HA.out (by simp [r03_words.j0])
  | succ kj4 =>
   have H := HA.out
   clear HA
   simp only [r03_words.j0] at H
   by_cases c7 : x14_4 = true
   ·subst c7
    replace H := it H
    obtain ⟨t294, A8, H⟩ := bo H
    obtain rfl := Option.some.inj H
    go_wp2_with (first | ((with_reducible refine gate_callee (f := 117) rfl ?_); refine gl 17 Tryz.func117 #[.string a0, .string a1] ?_; (with_reducible refine (r02_Cmp.calls kj4 a0 a1 t294 _ A8.out).mono ?_); rintro e w9 ⟨rfl, hb⟩; refine ⟨_, rfl, ?_⟩; have n0_ := bs HB hb; revert n0_; clear HB; intro HB; (try clear hb)))
    go_ret
    exact ⟨by first | rfl | (simp [errW_none, errW_some] <;> rfl) | (simp [*, errW_none, errW_some] <;> rfl), ba HB⟩
   ·replace c7 := Bool.eq_false_iff.mpr c7
    subst c7
    replace H := jf H
    by_cases c10 : t292 = true
    ·subst c10
     replace H := it H
     obtain rfl := Option.some.inj H
     go_wp2
     go_ret
     exact ⟨by first | rfl | (simp [errW_none, errW_some] <;> rfl) | (simp [*, errW_none, errW_some] <;> rfl), ba HB⟩
    ·replace c10 := Bool.eq_false_iff.mpr c10
     subst c10
     replace H := jf H
     by_cases c11 : t293 = true
     ·subst c11
      replace H := it H
      obtain rfl := Option.some.inj H
      go_wp2
      go_ret
      exact ⟨by first | rfl | (simp [errW_none, errW_some] <;> rfl) | (simp [*, errW_none, errW_some] <;> rfl), ba HB⟩
     ·replace c11 := Bool.eq_false_iff.mpr c11
      subst c11
      replace H := jf H
      obtain ⟨t295, A12, H⟩ := bo H
      obtain rfl := Option.some.inj H
      go_wp2_with (first | ((with_reducible refine gate_callee (f := 82) rfl ?_); refine gl 22 Tryz.func82 #[.string a0, .string a1] ?_; (with_reducible refine (r01_Cmp.calls kj4 a0 a1 t295 _ A12.out).mono ?_); rintro e w' ⟨rfl, ⟨nd, rfl⟩⟩; refine ⟨_, rfl, ?_⟩))
      go_ret
      exact ⟨by first | rfl | (simp [errW_none, errW_some] <;> rfl) | (simp [*, errW_none, errW_some] <;> rfl), ba HB⟩
end Go.Proofs.YtjfcmkddeglghaaGreatDoor.G
end
