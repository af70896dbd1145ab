/- For every list of needs and every node WhyTells returns true, as the card says: how far nodes are away, and the chain to a node, are as the document says, or the error is. Condition: when the call begins, utf8.acceptRanges and utf8.first hold what Go's own text lays. (part 2 of its proof) -/
import Derived.Test.YtjfcmkddeglghaaGreatDoorKa1
section
namespace Go.Proofs.YtjfcmkddeglghaaGreatDoor.G
open Go.RowKit Go.Proofs.YtjfcmkddeglghaaGreatDoorW.PrintWords Go.Proofs.YtjfcmkddeglghaaGreatDoorW.PrintLast Go.Proofs.YtjfcmkddeglghaaGreatDoorW.PrintMore
attribute [local go_sem] max2_int min2_int max_two min_two max_three min_three max_four min_four
set_option linter.unusedVariables false
set_option linter.unusedSimpArgs false
def r01_Parts.l0 : Nat → ByteArray → Int → List ByteArray → Int → Int → Option (List ByteArray)
 | 0, _, _, _, _, _ => none
 | k + 1, x0, x1, x5, x6, x7 => if x7 < (x0.size : Int) then (if 0 ≤ x7 then (if (bt x0 x7) = x1 then (if 0 ≤ x6 then (if x6 ≤ x7 then (if x7 ≤ (x0.size : Int) then (if x5.length < 8796093022208 then (r01_Parts.l0 k x0 x1 (x5 ++ [x0.extract (x6 : Int).toNat (x7 : Int).toNat]) (wrap64 (x7 + 1)) (wrap64 (x7 + 1))) else (none)) else (none)) else (none)) else (none)) else (r01_Parts.l0 k x0 x1 x5 x6 (wrap64 (x7 + 1)))) else (none)) else (if 0 ≤ x6 then (if x6 ≤ (x0.size : Int) then (if x5.length < 8796093022208 then (some (x5 ++ [x0.extract (x6 : Int).toNat x0.size])) else (none)) else (none)) else (none))
def r01_Parts.f (k : Nat) (a0 : ByteArray) (a1 : Int) : Option (List ByteArray) := r01_Parts.l0 k a0 a1 ([] : List ByteArray) 0 0
theorem r01_Parts.mono_l : ∀ k, (∀ y0 y1 y2 y3 y4, LeO (r01_Parts.l0 k y0 y1 y2 y3 y4) (r01_Parts.l0 (k + 1) y0 y1 y2 y3 y4))
 | 0 => fun _ _ _ _ _ r h => by simp [r01_Parts.l0] at h
 | k + 1 => by
  have ih0 := r01_Parts.mono_l k
  ·intro y0 y1 y2 y3 y4
   unfold r01_Parts.l0
   repeat' first
   | (with_reducible exact ih0 _ _ _ _ _)
   | (with_reducible exact LeO.refl _)
   | (with_reducible exact LeO.none _)
   | (with_reducible refine LeO.ite ?_ ?_)
   | (with_reducible refine LeO.bind ?_ (fun _ => ?_))
   | exact ih0 _ _ _ _ _
   | exact LeO.none _
   | refine LeO.ite ?_ ?_
   | refine LeO.bind ?_ (fun _ => ?_)
theorem r01_Parts.mono : ∀ a0 a1 k, LeO (r01_Parts.f k a0 a1) (r01_Parts.f (k + 1) a0 a1) := by
 intro a0 a1 k
 have ih0 := r01_Parts.mono_l k
 unfold r01_Parts.f
 repeat' first
   | (with_reducible exact ih0 _ _ _ _ _)
   | (with_reducible exact LeO.refl _)
   | (with_reducible exact LeO.none _)
   | (with_reducible refine LeO.ite ?_ ?_)
   | (with_reducible refine LeO.bind ?_ (fun _ => ?_))
   | exact ih0 _ _ _ _ _
   | exact LeO.none _
   | refine LeO.ite ?_ ?_
   | refine LeO.bind ?_ (fun _ => ?_)
set_option maxHeartbeats 8000000 in
set_option maxRecDepth 100000 in
theorem r01_Parts.calls (k : Nat) (a0 : ByteArray) (a1 : Int) (r : List ByteArray) (w : World) (h : r01_Parts.f k a0 a1 = some r) :
  Calls Tryz.prog 97 #[.string a0, .int .u8 a1] w fun e w' => ∃ v0_ : Value, e = .returned (v0_) ∧ Kd.R Kd.string 9 w' w.heap.size (fun _ => True) v0_ r ∧ Below w.heap.size w w' := by
 have HB := Aside0.mk (Below.refl w.heap.size w)
 have H : (r01_Parts.l0 k a0 a1 ([] : List ByteArray) 0 0) = some r := h
 clear h
 have H' := Aside0.mk H
 clear H
 go_enter Tryz.func97, Tryz.ntmps97
 go_wp2
 go_loopg [5, 6, 7] k (fun kq v5 v6 v7 w' => ∃ (x5_1 : List ByteArray) (x6_1 : Int) (x7_1 : Int), v6 = .int .i64 x6_1 ∧ v7 = .int .i64 x7_1 ∧ Aside0 (r01_Parts.l0 kq a0 a1 x5_1 x6_1 x7_1 = some r) ∧ Aside0 (kq ≤ k) ∧ Aside0 (Kd.R Kd.string 9 w' w.heap.size (fun _ => True) v5 x5_1) ∧ Aside0 (Below w.heap.size w w'))
 case atStart => exact ⟨(([] : List ByteArray)), (0), (0), (by first | rfl | (simp; done) | (simp [*]; done)), (by first | rfl | (simp; done) | (simp [*]; done)), H', ⟨Nat.le_refl _⟩, ⟨by first | exact Kd.R_nil _ _ _ _ _ | exact Kd.N_nil _ _ _ _ _ | exact Kd.V_nil _ _ _ _ _ | exact Kd.Q_nil _ _ _ _ _ | exact Kd.S_nil _ _ _ _ _⟩, ⟨ba HB⟩⟩
 case round =>
  clear H'
  try clear p2
  obtain ⟨x5_1, x6_1, x7_1, rfl, rfl, HA, HK1, HO_5, HB⟩ := hrel
  cases gk with
  | zero => exact absurd HA.out (by simp [r01_Parts.l0])
  | succ k1 =>
   have H := HA.out
   clear HA
   simp only [r01_Parts.l0] at H
   by_cases c3 : x7_1 < (a0.size : Int)
   ·rw [if_pos c3] at H
    have c3b0 : decide (x7_1 < (a0.size : Int)) = true := decide_eq_true c3
    clear c3
    by_cases c4 : 0 ≤ x7_1
    ·rw [if_pos c4] at H
     have c4b0 : decide (0 ≤ x7_1) = true := decide_eq_true c4
     clear c4
     by_cases c6 : (bt a0 x7_1) = a1
     ·rw [if_pos c6] at H
      have c6b0 := beq_iff_eq.mpr c6
      have c6b1 := bne_eq_false_iff_eq.mpr c6
      clear c6
      by_cases c7 : 0 ≤ x6_1
      ·rw [if_pos c7] at H
       have c7b0 := eq_true c7
       have c7b1 : decide (0 ≤ x6_1) = true := decide_eq_true c7
       clear c7
       by_cases c8 : x6_1 ≤ x7_1
       ·rw [if_pos c8] at H
        have c8b0 := eq_true c8
        have c8b1 : decide (x6_1 ≤ x7_1) = true := decide_eq_true c8
        clear c8
        by_cases c9 : x7_1 ≤ (a0.size : Int)
        ·rw [if_pos c9] at H
         have c9b0 := eq_true c9
         have c9b1 : decide (x7_1 ≤ (a0.size : Int)) = true := decide_eq_true c9
         clear c9
         by_cases c10 : x5_1.length < 8796093022208
         ·rw [if_pos c10] at H
          have LMc10 := Aside0.mk c10
          clear c10
          obtain ⟨y230, hy230⟩ : ∃ y_ : List ByteArray, y_ = (x5_1 ++ [a0.extract (x6_1 : Int).toNat (x7_1 : Int).toNat]) := ⟨_, rfl⟩
          replace H : (r01_Parts.l0 k1 a0 a1 y230 (wrap64 (x7_1 + 1)) (wrap64 (x7_1 + 1))) = some r := by first | (rw [hy230]; with_reducible exact H) | (have H2_ := (Option.bind_some _ _).symm.trans H; rw [hy230]; with_reducible exact H2_) | (have H2_ := (Option.bind_some _ _).symm.trans H; with_reducible exact H2_) | with_reducible exact H | (rw [hy230]; exact H) | exact H
          have Ny230 := Aside0.mk hy230
          clear hy230
          have H' := Aside0.mk H
          clear H
          have p5 : 0 ≤ (x7_1 : Int) := of_decide_eq_true (by first | (with_reducible assumption) | assumption)
          have q5 : x7_1 < (a0.size : Int) := of_decide_eq_true (by first | (with_reducible assumption) | assumption)
          have hx5 := bt_at a0 x7_1
          replace p5 := eq_true p5
          replace q5 := eq_true q5
          go_wp2_with (first | ((with_reducible refine gate_builtin (b := .append) (xs := #[.tmp 19, .tmp 24]) rfl ?_); at_builtin; refine Kd.R_append Kd.string (w0 := w) w.heap.size rfl (.tmp 19) (.tmp 24) 122 9 (.string ⟨#[]⟩) 16 rfl Tryz.underlying122 info9 rfl (by decide) (by omega) u5 x5_1 (a0.extract (x6_1 : Int).toNat (x7_1 : Int).toNat) [.string (a0.extract (x6_1 : Int).toNat (x7_1 : Int).toNat)] (fun _ => True) (fun _ => False) rfl rfl ?aP (fun _ hk => hk.elim) ?aF ?aO ?aB ?aS ?aL ?_; (case aP => exact rfl); (case aB => exact (ba HB)); (case aF => exact (fun _ _ => trivial)); (case aO => exact (ra HO_5)); (case aS => exact (bz HB)); (case aL => have := LMc10.out; omega); intro v231 w11 ho hb hg hat; rw [← Ny230.out] at ho; have n0_ := Aside0.mk (hb); have n1_ := Aside0.mk (ho); revert n0_ n1_; clear HB HO_5; intro HB HO232; clear ho hb hg hat))
          go_roundg k1
          case measure => have := HK1.out; omega
          case rel => exact ⟨(y230), (wrap64 (x7_1 + 1)), (wrap64 (x7_1 + 1)), (by first | rfl | (simp; done) | (simp [*]; done)), (by first | rfl | (simp; done) | (simp [*]; done)), H', ⟨by have := HK1.out; omega⟩, ⟨ra HO232⟩, ⟨ba HB⟩⟩
         ·rw [if_neg c10] at H
          exact absurd H (by simp)
        ·rw [if_neg c9] at H
         exact absurd H (by simp)
       ·rw [if_neg c8] at H
        exact absurd H (by simp)
      ·rw [if_neg c7] at H
       exact absurd H (by simp)
     ·rw [if_neg c6] at H
      have c6b0 := beq_eq_false_iff_ne.mpr c6
      have c6b1 := bne_iff_ne.mpr c6
      have H' := Aside0.mk H
      clear H
      have p5 : 0 ≤ (x7_1 : Int) := of_decide_eq_true (by first | (with_reducible assumption) | assumption)
      have q5 : x7_1 < (a0.size : Int) := of_decide_eq_true (by first | (with_reducible assumption) | assumption)
      have hx5 := bt_at a0 x7_1
      replace p5 := eq_true p5
      replace q5 := eq_true q5
      go_wp2
      go_roundg k1
      case measure => have := HK1.out; omega
      case rel => exact ⟨(x5_1), (x6_1), (wrap64 (x7_1 + 1)), (by first | rfl | (simp; done) | (simp [*]; done)), (by first | rfl | (simp; done) | (simp [*]; done)), H', ⟨by have := HK1.out; omega⟩, ⟨ra HO_5⟩, ⟨ba HB⟩⟩
    ·rw [if_neg c4] at H
     exact absurd H (by simp)
   ·rw [if_neg c3] at H
    have c3b0 : decide (x7_1 < (a0.size : Int)) = false := decide_eq_false c3
    clear c3
    by_cases c12 : 0 ≤ x6_1
    ·rw [if_pos c12] at H
     have c12b0 := eq_true c12
     have c12b1 : decide (0 ≤ x6_1) = true := decide_eq_true c12
     clear c12
     by_cases c13 : x6_1 ≤ (a0.size : Int)
     ·rw [if_pos c13] at H
      have c13b0 := eq_true c13
      have c13b1 : decide (x6_1 ≤ (a0.size : Int)) = true := decide_eq_true c13
      clear c13
      by_cases c14 : x5_1.length < 8796093022208
      ·rw [if_pos c14] at H
       have LMc14 := Aside0.mk c14
       clear c14
       obtain ⟨y233, hy233⟩ : ∃ y_ : List ByteArray, y_ = (x5_1 ++ [a0.extract (x6_1 : Int).toNat a0.size]) := ⟨_, rfl⟩
       replace H : (some y233) = some r := by first | (rw [hy233]; with_reducible exact H) | (have H2_ := (Option.bind_some _ _).symm.trans H; rw [hy233]; with_reducible exact H2_) | (have H2_ := (Option.bind_some _ _).symm.trans H; with_reducible exact H2_) | with_reducible exact H | (rw [hy233]; exact H) | exact H
       have Ny233 := Aside0.mk hy233
       clear hy233
       obtain rfl := Option.some.inj H
       go_wp2_with (first | ((with_reducible refine gate_builtin (b := .append) (xs := #[.tmp 28, .tmp 32]) rfl ?_); at_builtin; refine Kd.R_append Kd.string (w0 := w) w.heap.size rfl (.tmp 28) (.tmp 32) 122 9 (.string ⟨#[]⟩) 16 rfl Tryz.underlying122 info9 rfl (by decide) (by omega) u5 x5_1 (a0.extract (x6_1 : Int).toNat a0.size) [.string (a0.extract (x6_1 : Int).toNat a0.size)] (fun _ => True) (fun _ => False) rfl rfl ?aP (fun _ hk => hk.elim) ?aF ?aO ?aB ?aS ?aL ?_; (case aP => exact rfl); (case aB => exact (ba HB)); (case aF => exact (fun _ _ => trivial)); (case aO => exact (ra HO_5)); (case aS => exact (bz HB)); (case aL => have := LMc14.out; omega); intro v234 w15 ho hb hg hat; rw [← Ny233.out] at ho; have n0_ := Aside0.mk (hb); have n1_ := Aside0.mk (ho); revert n0_ n1_; clear HB HO_5; intro HB HO235; clear ho hb hg hat))
       go_ret
       exact ⟨_, by first | rfl | (simp [errW_none, errW_some] <;> rfl) | (simp [*, errW_none, errW_some] <;> rfl), by (with_reducible repeat (first | apply Kd.R_alloc | apply Kd.R_drewN | apply Kd.R_drew)); exact HO235.out, ba HB⟩
      ·rw [if_neg c14] at H
       exact absurd H (by simp)
     ·rw [if_neg c13] at H
      exact absurd H (by simp)
    ·rw [if_neg c12] at H
     exact absurd H (by simp)
end Go.Proofs.YtjfcmkddeglghaaGreatDoor.G
end
section
namespace Go.Proofs.YtjfcmkddeglghaaGreatDoor.G
open Go.RowKit Go.Proofs.YtjfcmkddeglghaaGreatDoorW.PrintWords Go.Proofs.YtjfcmkddeglghaaGreatDoorW.PrintLast Go.Proofs.YtjfcmkddeglghaaGreatDoorW.PrintMore
attribute [local go_sem] max2_int min2_int max_two min_two max_three min_three max_four min_four
set_option linter.unusedVariables false
set_option linter.unusedSimpArgs false
mutual
def r01_Class.j0 : Nat → Int → Bool → Option (Int)
 | 0, _, _ => none
 | k + 1, x3, x11 => if x11 = true then (some 1) else (if x3 ≥ 65 then (if x3 ≤ 90 then (r01_Class.j1 k x3 true) else (if x3 ≥ 97 then (r01_Class.j1 k x3 (decide (x3 ≤ 122))) else (r01_Class.j1 k x3 false))) else (if x3 ≥ 97 then (r01_Class.j1 k x3 (decide (x3 ≤ 122))) else (r01_Class.j1 k x3 false)))
def r01_Class.j1 : Nat → Int → Bool → Option (Int)
 | 0, _, _ => none
 | k + 1, x3, x25 => if x25 = true then (some 2) else (if x3 = 45 then (r01_Class.j2 k x3 true) else (if x3 = 46 then (r01_Class.j2 k x3 true) else (if x3 = 95 then (r01_Class.j2 k x3 true) else (r01_Class.j2 k x3 (x3 == 126)))))
def r01_Class.j2 : Nat → Int → Bool → Option (Int)
 | 0, _, _ => none
 | k + 1, x3, x39 => if x39 = true then (some 3) else (if x3 = 47 then (some 4) else (if x3 = 32 then (r01_Class.j3 k x3 (x3 == 32)) else (r01_Class.j3 k x3 (x3 == 9))))
def r01_Class.j3 : Nat → Int → Bool → Option (Int)
 | 0, _, _ => none
 | k + 1, x40, x43 => if x43 = true then (some 5) else (if x40 = 10 then (some 6) else (if x40 = 34 then (some 7) else (if x40 = 40 then (some 8) else (if x40 = 41 then (some 9) else (some 0)))))
end
def r01_Class.f (k : Nat) (a0 : Int) : Option (Int) := if (wrap64 (a0)) ≥ 48 then (r01_Class.j0 k (wrap64 (a0)) (decide ((wrap64 (a0)) ≤ 57))) else (r01_Class.j0 k (wrap64 (a0)) false)
theorem r01_Class.mono_l : ∀ k, (∀ y0 y1, LeO (r01_Class.j0 k y0 y1) (r01_Class.j0 (k + 1) y0 y1)) ∧ (∀ y0 y1, LeO (r01_Class.j1 k y0 y1) (r01_Class.j1 (k + 1) y0 y1)) ∧ (∀ y0 y1, LeO (r01_Class.j2 k y0 y1) (r01_Class.j2 (k + 1) y0 y1)) ∧ (∀ y0 y1, LeO (r01_Class.j3 k y0 y1) (r01_Class.j3 (k + 1) y0 y1))
 | 0 => ⟨fun _ _ r h => by simp [r01_Class.j0] at h, fun _ _ r h => by simp [r01_Class.j1] at h, fun _ _ r h => by simp [r01_Class.j2] at h, fun _ _ r h => by simp [r01_Class.j3] at h⟩
 | k + 1 => by
  obtain ⟨ih0, ih1, ih2, ih3⟩ := r01_Class.mono_l k
  refine ⟨?_, ?_, ?_, ?_⟩
  ·intro y0 y1
   unfold r01_Class.j0
   repeat' first
   | (with_reducible exact ih0 _ _)
   | (with_reducible exact ih1 _ _)
   | (with_reducible exact ih2 _ _)
   | (with_reducible exact ih3 _ _)
   | (with_reducible exact LeO.refl _)
   | (with_reducible exact LeO.none _)
   | (with_reducible refine LeO.ite ?_ ?_)
   | (with_reducible refine LeO.bind ?_ (fun _ => ?_))
   | exact ih0 _ _
   | exact ih1 _ _
   | exact ih2 _ _
   | exact ih3 _ _
   | exact LeO.none _
   | refine LeO.ite ?_ ?_
   | refine LeO.bind ?_ (fun _ => ?_)
  ·intro y0 y1
   unfold r01_Class.j1
   repeat' first
   | (with_reducible exact ih0 _ _)
   | (with_reducible exact ih1 _ _)
   | (with_reducible exact ih2 _ _)
   | (with_reducible exact ih3 _ _)
   | (with_reducible exact LeO.refl _)
   | (with_reducible exact LeO.none _)
   | (with_reducible refine LeO.ite ?_ ?_)
   | (with_reducible refine LeO.bind ?_ (fun _ => ?_))
   | exact ih0 _ _
   | exact ih1 _ _
   | exact ih2 _ _
   | exact ih3 _ _
   | exact LeO.none _
   | refine LeO.ite ?_ ?_
   | refine LeO.bind ?_ (fun _ => ?_)
  ·intro y0 y1
   unfold r01_Class.j2
   repeat' first
   | (with_reducible exact ih0 _ _)
   | (with_reducible exact ih1 _ _)
   | (with_reducible exact ih2 _ _)
   | (with_reducible exact ih3 _ _)
   | (with_reducible exact LeO.refl _)
   | (with_reducible exact LeO.none _)
   | (with_reducible refine LeO.ite ?_ ?_)
   | (with_reducible refine LeO.bind ?_ (fun _ => ?_))
   | exact ih0 _ _
   | exact ih1 _ _
   | exact ih2 _ _
   | exact ih3 _ _
   | exact LeO.none _
   | refine LeO.ite ?_ ?_
   | refine LeO.bind ?_ (fun _ => ?_)
  ·intro y0 y1
   unfold r01_Class.j3
   repeat' first
   | (with_reducible exact ih0 _ _)
   | (with_reducible exact ih1 _ _)
   | (with_reducible exact ih2 _ _)
   | (with_reducible exact ih3 _ _)
   | (with_reducible exact LeO.refl _)
   | (with_reducible exact LeO.none _)
   | (with_reducible refine LeO.ite ?_ ?_)
   | (with_reducible refine LeO.bind ?_ (fun _ => ?_))
   | exact ih0 _ _
   | exact ih1 _ _
   | exact ih2 _ _
   | exact ih3 _ _
   | exact LeO.none _
   | refine LeO.ite ?_ ?_
   | refine LeO.bind ?_ (fun _ => ?_)
theorem r01_Class.mono : ∀ a0 k, LeO (r01_Class.f k a0) (r01_Class.f (k + 1) a0) := by
 intro a0 k
 obtain ⟨ih0, ih1, ih2, ih3⟩ := r01_Class.mono_l k
 unfold r01_Class.f
 repeat' first
   | (with_reducible exact ih0 _ _)
   | (with_reducible exact ih1 _ _)
   | (with_reducible exact ih2 _ _)
   | (with_reducible exact ih3 _ _)
   | (with_reducible exact LeO.refl _)
   | (with_reducible exact LeO.none _)
   | (with_reducible refine LeO.ite ?_ ?_)
   | (with_reducible refine LeO.bind ?_ (fun _ => ?_))
   | exact ih0 _ _
   | exact ih1 _ _
   | exact ih2 _ _
   | exact ih3 _ _
   | exact LeO.none _
   | refine LeO.ite ?_ ?_
   | refine LeO.bind ?_ (fun _ => ?_)
set_option maxHeartbeats 8000000 in
set_option maxRecDepth 100000 in
theorem r01_Class.calls (k : Nat) (a0 : Int) (r : Int) (w : World) (h : r01_Class.f k a0 = some r) :
  Calls Tryz.prog 134 #[.int .u8 a0] w fun e w' => e = .returned (.int .i64 r) ∧ Drawn0 w w' := by
 have H : (if (wrap64 (a0)) ≥ 48 then (r01_Class.j0 k (wrap64 (a0)) (decide ((wrap64 (a0)) ≤ 57))) else (r01_Class.j0 k (wrap64 (a0)) false)) = some r := h
 clear h
 have HC2 := Aside0.mk H
 clear H
 go_enter Tryz.func134, Tryz.ntmps134
 go_upto_region 2 with (fail)
 go_cut [11] (fun v11 wc => ∃ (kq : Nat) (x11_1 : Bool), v11 = .bool x11_1 ∧ Aside0 (r01_Class.j0 kq (wrap64 (a0)) x11_1 = some r) ∧ Aside0 (kq ≤ k) ∧ Drawn0 w wc)
 case first =>
  have H := HC2.out
  clear HC2
  by_cases c3 : (wrap64 (a0)) ≥ 48
  ·rw [if_pos c3] at H
   have c3b0 : decide (48 ≤ (wrap64 (a0))) = true := decide_eq_true c3
   clear c3
   (first | rw [c3b0] | (simp only [i64_w, i32_w]; rw [c3b0]) | skip)
   have H' := Aside0.mk H
   clear H
   go_wp2
   go_meet
   case rel => exact ⟨_, (decide ((wrap64 (a0)) ≤ 57)), (by first | rfl | (simp; done) | (simp [*]; done)), H', ⟨by first | omega | exact Nat.le_refl _⟩, by repeat (first | exact Drawn0.refl _ | apply Drawn0.step)⟩
  ·rw [if_neg c3] at H
   have c3b0 : decide (48 ≤ (wrap64 (a0))) = false := decide_eq_false c3
   clear c3
   (first | rw [c3b0] | (simp only [i64_w, i32_w]; rw [c3b0]) | skip)
   have H' := Aside0.mk H
   clear H
   go_wp2
   go_meet
   case rel => exact ⟨_, (false), (by first | rfl | (simp; done) | (simp [*]; done)), H', ⟨by first | omega | exact Nat.le_refl _⟩, by repeat (first | exact Drawn0.refl _ | apply Drawn0.step)⟩
 case rest =>
  clear HC2
  try clear c1
  try clear p2
  try clear c3
  try clear c3b0
  obtain ⟨kq, x11_1, rfl, HA, HJ1, ⟨mc1, rfl⟩⟩ := hcut
  cases kq with
  | zero => exact absurd HA.out (by simp [r01_Class.j0])
  | succ kj1 =>
   have H := HA.out
   clear HA
   simp only [r01_Class.j0] at H
   by_cases c4 : x11_1 = true
   ·subst c4
    replace H := it H
    obtain rfl := Option.some.inj H
    go_wp2
    go_ret
    exact ⟨by first | rfl | (simp; done) | (simp [*]; done), by repeat (first | exact Drawn0.refl _ | apply Drawn0.step)⟩
   ·replace c4 := Bool.eq_false_iff.mpr c4
    subst c4
    replace H := jf H
    have HC5 := Aside0.mk H
    clear H
    go_upto_region 4 with (fail)
    go_cut [25] (fun v25 wc => ∃ (kq : Nat) (x25_4 : Bool), v25 = .bool x25_4 ∧ Aside0 (r01_Class.j1 kq (wrap64 (a0)) x25_4 = some r) ∧ Aside0 (kq ≤ kj1) ∧ Drawn0 w wc)
    case first =>
     have H := HC5.out
     clear HC5
     by_cases c6 : (wrap64 (a0)) ≥ 65
     ·rw [if_pos c6] at H
      have c6b0 : decide (65 ≤ (wrap64 (a0))) = true := decide_eq_true c6
      clear c6
      (first | rw [c6b0] | (simp only [i64_w, i32_w]; rw [c6b0]) | skip)
      by_cases c7 : (wrap64 (a0)) ≤ 90
      ·rw [if_pos c7] at H
       have c7b0 : decide ((wrap64 (a0)) ≤ 90) = true := decide_eq_true c7
       clear c7
       have H' := Aside0.mk H
       clear H
       go_wp2
       go_meet
       case rel => exact ⟨_, (true), (by first | rfl | (simp; done) | (simp [*]; done)), H', ⟨by have := HJ1.out; first | omega | exact Nat.le_refl _⟩, by repeat (first | exact Drawn0.refl _ | apply Drawn0.step)⟩
      ·rw [if_neg c7] at H
       have c7b0 : decide ((wrap64 (a0)) ≤ 90) = false := decide_eq_false c7
       clear c7
       by_cases c8 : (wrap64 (a0)) ≥ 97
       ·rw [if_pos c8] at H
        have c8b0 : decide (97 ≤ (wrap64 (a0))) = true := decide_eq_true c8
        clear c8
        have H' := Aside0.mk H
        clear H
        go_wp2
        go_meet
        case rel => exact ⟨_, (decide ((wrap64 (a0)) ≤ 122)), (by first | rfl | (simp; done) | (simp [*]; done)), H', ⟨by have := HJ1.out; first | omega | exact Nat.le_refl _⟩, by repeat (first | exact Drawn0.refl _ | apply Drawn0.step)⟩
       ·rw [if_neg c8] at H
        have c8b0 : decide (97 ≤ (wrap64 (a0))) = false := decide_eq_false c8
        clear c8
        have H' := Aside0.mk H
        clear H
        go_wp2
        go_meet
        case rel => exact ⟨_, (false), (by first | rfl | (simp; done) | (simp [*]; done)), H', ⟨by have := HJ1.out; first | omega | exact Nat.le_refl _⟩, by repeat (first | exact Drawn0.refl _ | apply Drawn0.step)⟩
     ·rw [if_neg c6] at H
      have c6b0 : decide (65 ≤ (wrap64 (a0))) = false := decide_eq_false c6
      clear c6
      (first | rw [c6b0] | (simp only [i64_w, i32_w]; rw [c6b0]) | skip)
      by_cases c9 : (wrap64 (a0)) ≥ 97
      ·rw [if_pos c9] at H
       have c9b0 : decide (97 ≤ (wrap64 (a0))) = true := decide_eq_true c9
       clear c9
       have H' := Aside0.mk H
       clear H
       go_wp2
       go_meet
       case rel => exact ⟨_, (decide ((wrap64 (a0)) ≤ 122)), (by first | rfl | (simp; done) | (simp [*]; done)), H', ⟨by have := HJ1.out; first | omega | exact Nat.le_refl _⟩, by repeat (first | exact Drawn0.refl _ | apply Drawn0.step)⟩
      ·rw [if_neg c9] at H
       have c9b0 : decide (97 ≤ (wrap64 (a0))) = false := decide_eq_false c9
       clear c9
       have H' := Aside0.mk H
       clear H
       go_wp2
       go_meet
       case rel => exact ⟨_, (false), (by first | rfl | (simp; done) | (simp [*]; done)), H', ⟨by have := HJ1.out; first | omega | exact Nat.le_refl _⟩, by repeat (first | exact Drawn0.refl _ | apply Drawn0.step)⟩
    case rest =>
     clear HC5
     try clear c1
     try clear p2
     try clear c3
     try clear c3b0
     try clear c4
     try clear c6
     try clear c6b0
     try clear p6
     try clear c7
     try clear c7b0
     try clear c8
     try clear c8b0
     try clear c9
     try clear c9b0
     try clear p2
     obtain ⟨kq, x25_4, rfl, HA, HJ4, ⟨mc4, rfl⟩⟩ := hcut
     cases kq with
     | zero => exact absurd HA.out (by simp [r01_Class.j1])
     | succ kj4 =>
      have H := HA.out
      clear HA
      simp only [r01_Class.j1] at H
      by_cases c10 : x25_4 = true
      ·subst c10
       replace H := it H
       obtain rfl := Option.some.inj H
       go_wp2
       go_ret
       exact ⟨by first | rfl | (simp; done) | (simp [*]; done), by repeat (first | exact Drawn0.refl _ | apply Drawn0.step)⟩
      ·replace c10 := Bool.eq_false_iff.mpr c10
       subst c10
       replace H := jf H
       have HC11 := Aside0.mk H
       clear H
       go_upto_region 6 with (fail)
       go_cut [39] (fun v39 wc => ∃ (kq : Nat) (x39_10 : Bool), v39 = .bool x39_10 ∧ Aside0 (r01_Class.j2 kq (wrap64 (a0)) x39_10 = some r) ∧ Aside0 (kq ≤ kj4) ∧ Drawn0 w wc)
       case first =>
        have H := HC11.out
        clear HC11
        by_cases c12 : (wrap64 (a0)) = 45
        ·rw [if_pos c12] at H
         have c12b0 := beq_iff_eq.mpr c12
         have c12b1 := bne_eq_false_iff_eq.mpr c12
         clear c12
         (first | rw [c12b0] | (simp only [i64_w, i32_w]; rw [c12b0]) | skip)
         have H' := Aside0.mk H
         clear H
         go_wp2
         go_meet
         case rel => exact ⟨_, (true), (by first | rfl | (simp; done) | (simp [*]; done)), H', ⟨by have := HJ1.out; have := HJ4.out; first | omega | exact Nat.le_refl _⟩, by repeat (first | exact Drawn0.refl _ | apply Drawn0.step)⟩
        ·rw [if_neg c12] at H
         have c12b0 := beq_eq_false_iff_ne.mpr c12
         have c12b1 := bne_iff_ne.mpr c12
         (first | rw [c12b0] | (simp only [i64_w, i32_w]; rw [c12b0]) | skip)
         by_cases c13 : (wrap64 (a0)) = 46
         ·rw [if_pos c13] at H
          have c13b0 := beq_iff_eq.mpr c13
          have c13b1 := bne_eq_false_iff_eq.mpr c13
          clear c13
          have H' := Aside0.mk H
          clear H
          go_wp2
          go_meet
          case rel => exact ⟨_, (true), (by first | rfl | (simp; done) | (simp [*]; done)), H', ⟨by have := HJ1.out; have := HJ4.out; first | omega | exact Nat.le_refl _⟩, by repeat (first | exact Drawn0.refl _ | apply Drawn0.step)⟩
         ·rw [if_neg c13] at H
          have c13b0 := beq_eq_false_iff_ne.mpr c13
          have c13b1 := bne_iff_ne.mpr c13
          by_cases c14 : (wrap64 (a0)) = 95
          ·rw [if_pos c14] at H
           have c14b0 := beq_iff_eq.mpr c14
           have c14b1 := bne_eq_false_iff_eq.mpr c14
           clear c14
           have H' := Aside0.mk H
           clear H
           go_wp2
           go_meet
           case rel => exact ⟨_, (true), (by first | rfl | (simp; done) | (simp [*]; done)), H', ⟨by have := HJ1.out; have := HJ4.out; first | omega | exact Nat.le_refl _⟩, by repeat (first | exact Drawn0.refl _ | apply Drawn0.step)⟩
          ·rw [if_neg c14] at H
           have c14b0 := beq_eq_false_iff_ne.mpr c14
           have c14b1 := bne_iff_ne.mpr c14
           have H' := Aside0.mk H
           clear H
           go_wp2
           go_meet
           case rel => exact ⟨_, (((wrap64 (a0)) == 126)), (by first | rfl | (simp; done) | (simp [*]; done)), H', ⟨by have := HJ1.out; have := HJ4.out; first | omega | exact Nat.le_refl _⟩, by repeat (first | exact Drawn0.refl _ | apply Drawn0.step)⟩
       case rest =>
        clear HC11
        try clear c1
        try clear p2
        try clear c3
        try clear c3b0
        try clear c4
        try clear c6
        try clear c6b0
        try clear p6
        try clear c7
        try clear c7b0
        try clear c8
        try clear c8b0
        try clear c9
        try clear c9b0
        try clear c10
        try clear c12
        try clear c12b0
        try clear c12b1
        try clear c13
        try clear c13b0
        try clear c13b1
        try clear c14
        try clear c14b0
        try clear c14b1
        try clear p2
        try clear p6
        obtain ⟨kq, x39_10, rfl, HA, HJ10, ⟨mc10, rfl⟩⟩ := hcut
        cases kq with
        | zero => exact absurd HA.out (by simp [r01_Class.j2])
        | succ kj10 =>
         have H := HA.out
         clear HA
         simp only [r01_Class.j2] at H
         by_cases c15 : x39_10 = true
         ·subst c15
          replace H := it H
          obtain rfl := Option.some.inj H
          go_wp2
          go_ret
          exact ⟨by first | rfl | (simp; done) | (simp [*]; done), by repeat (first | exact Drawn0.refl _ | apply Drawn0.step)⟩
         ·replace c15 := Bool.eq_false_iff.mpr c15
          subst c15
          replace H := jf H
          by_cases c16 : (wrap64 (a0)) = 47
          ·rw [if_pos c16] at H
           have c16b0 := beq_iff_eq.mpr c16
           have c16b1 := bne_eq_false_iff_eq.mpr c16
           clear c16
           obtain rfl := Option.some.inj H
           go_wp2
           go_ret
           exact ⟨by first | rfl | (simp; done) | (simp [*]; done), by repeat (first | exact Drawn0.refl _ | apply Drawn0.step)⟩
          ·rw [if_neg c16] at H
           have c16b0 := beq_eq_false_iff_ne.mpr c16
           have c16b1 := bne_iff_ne.mpr c16
           have HC17 := Aside0.mk H
           clear H
           go_upto_if 43 with (fail)
           go_cut [43] (fun v43 wc => ∃ (kq : Nat) (x43_16 : Bool), v43 = .bool x43_16 ∧ Aside0 (r01_Class.j3 kq (wrap64 (a0)) x43_16 = some r) ∧ Aside0 (kq ≤ kj10) ∧ Drawn0 w wc)
           case first =>
            have H := HC17.out
            clear HC17
            by_cases c18 : (wrap64 (a0)) = 32
            ·rw [if_pos c18] at H
             have c18b0 := beq_iff_eq.mpr c18
             have c18b1 := bne_eq_false_iff_eq.mpr c18
             clear c18
             (first | rw [c18b0] | (simp only [i64_w, i32_w]; rw [c18b0]) | skip)
             have H' := Aside0.mk H
             clear H
             go_wp2
             go_meet
             case rel => exact ⟨_, (((wrap64 (a0)) == 32)), (by first | rfl | (simp; done) | (simp [*]; done)), H', ⟨by have := HJ1.out; have := HJ4.out; have := HJ10.out; first | omega | exact Nat.le_refl _⟩, by repeat (first | exact Drawn0.refl _ | apply Drawn0.step)⟩
            ·rw [if_neg c18] at H
             have c18b0 := beq_eq_false_iff_ne.mpr c18
             have c18b1 := bne_iff_ne.mpr c18
             (first | rw [c18b0] | (simp only [i64_w, i32_w]; rw [c18b0]) | skip)
             have H' := Aside0.mk H
             clear H
             go_wp2
             go_meet
             case rel => exact ⟨_, (((wrap64 (a0)) == 9)), (by first | rfl | (simp; done) | (simp [*]; done)), H', ⟨by have := HJ1.out; have := HJ4.out; have := HJ10.out; first | omega | exact Nat.le_refl _⟩, by repeat (first | exact Drawn0.refl _ | apply Drawn0.step)⟩
           case rest =>
            clear HC17
            try clear c1
            try clear p2
            try clear c3
            try clear c3b0
            try clear c4
            try clear c6
            try clear c6b0
            try clear p6
            try clear c7
            try clear c7b0
            try clear c8
            try clear c8b0
            try clear c9
            try clear c9b0
            try clear c10
            try clear c12
            try clear c12b0
            try clear c12b1
            try clear c13
            try clear c13b0
            try clear c13b1
            try clear c14
            try clear c14b0
            try clear c14b1
            try clear c15
            try clear c16
            try clear c16b0
            try clear c16b1
            try clear c18
            try clear c18b0
            try clear c18b1
            try clear p2
            try clear p6
            obtain ⟨kq, x43_16, rfl, HA, HJ16, ⟨mc16, rfl⟩⟩ := hcut
            cases kq with
            | zero => exact absurd HA.out (by simp [r01_Class.j3])
            | succ kj16 =>
             have H := HA.out
             clear HA
             simp only [r01_Class.j3] at H
             by_cases c19 : x43_16 = true
             ·subst c19
              replace H := it H
              obtain rfl := Option.some.inj H
              go_wp2
              go_ret
              exact ⟨by first | rfl | (simp; done) | (simp [*]; done), by repeat (first | exact Drawn0.refl _ | apply Drawn0.step)⟩
             ·replace c19 := Bool.eq_false_iff.mpr c19
              subst c19
              replace H := jf H
              by_cases c20 : (wrap64 (a0)) = 10
              ·rw [if_pos c20] at H
               have c20b0 := beq_iff_eq.mpr c20
               have c20b1 := bne_eq_false_iff_eq.mpr c20
               clear c20
               obtain rfl := Option.some.inj H
               go_wp2
               go_ret
               exact ⟨by first | rfl | (simp; done) | (simp [*]; done), by repeat (first | exact Drawn0.refl _ | apply Drawn0.step)⟩
              ·rw [if_neg c20] at H
               have c20b0 := beq_eq_false_iff_ne.mpr c20
               have c20b1 := bne_iff_ne.mpr c20
               by_cases c21 : (wrap64 (a0)) = 34
               ·rw [if_pos c21] at H
                have c21b0 := beq_iff_eq.mpr c21
                have c21b1 := bne_eq_false_iff_eq.mpr c21
                clear c21
                obtain rfl := Option.some.inj H
                go_wp2
                go_ret
                exact ⟨by first | rfl | (simp; done) | (simp [*]; done), by repeat (first | exact Drawn0.refl _ | apply Drawn0.step)⟩
               ·rw [if_neg c21] at H
                have c21b0 := beq_eq_false_iff_ne.mpr c21
                have c21b1 := bne_iff_ne.mpr c21
                by_cases c22 : (wrap64 (a0)) = 40
                ·rw [if_pos c22] at H
                 have c22b0 := beq_iff_eq.mpr c22
                 have c22b1 := bne_eq_false_iff_eq.mpr c22
                 clear c22
                 obtain rfl := Option.some.inj H
                 go_wp2
                 go_ret
                 exact ⟨by first | rfl | (simp; done) | (simp [*]; done), by repeat (first | exact Drawn0.refl _ | apply Drawn0.step)⟩
                ·rw [if_neg c22] at H
                 have c22b0 := beq_eq_false_iff_ne.mpr c22
                 have c22b1 := bne_iff_ne.mpr c22
                 by_cases c23 : (wrap64 (a0)) = 41
                 ·rw [if_pos c23] at H
                  have c23b0 := beq_iff_eq.mpr c23
                  have c23b1 := bne_eq_false_iff_eq.mpr c23
                  clear c23
                  obtain rfl := Option.some.inj H
                  go_wp2
                  go_ret
                  exact ⟨by first | rfl | (simp; done) | (simp [*]; done), by repeat (first | exact Drawn0.refl _ | apply Drawn0.step)⟩
                 ·rw [if_neg c23] at H
                  have c23b0 := beq_eq_false_iff_ne.mpr c23
                  have c23b1 := bne_iff_ne.mpr c23
                  obtain rfl := Option.some.inj H
                  go_wp2
                  go_ret
                  exact ⟨by first | rfl | (simp; done) | (simp [*]; done), by repeat (first | exact Drawn0.refl _ | apply Drawn0.step)⟩
end Go.Proofs.YtjfcmkddeglghaaGreatDoor.G
end
section
namespace Go.Proofs.YtjfcmkddeglghaaGreatDoor.G
open Go.RowKit Go.Proofs.YtjfcmkddeglghaaGreatDoorW.PrintWords Go.Proofs.YtjfcmkddeglghaaGreatDoorW.PrintLast Go.Proofs.YtjfcmkddeglghaaGreatDoorW.PrintMore
attribute [local go_sem] max2_int min2_int max_two min_two max_three min_three max_four min_four
set_option linter.unusedVariables false
set_option linter.unusedSimpArgs false
mutual
def r04_Element.j0 : Nat → ByteArray → Bool → Option (Bool)
 | 0, _, _ => none
 | k + 1, x0, x20 => if x20 = true then (some false) else (r04_Element.l0 k x0 0)
def r04_Element.l0 : Nat → ByteArray → Int → Option (Bool)
 | 0, _, _ => none
 | k + 1, x0, x3 => if x3 < (x0.size : Int) then (if 0 ≤ x3 then ((r01_Class.f k (bt x0 x3)).bind fun t236 => (if t236 < 1 then (some false) else (if t236 > 3 then (some false) else (r04_Element.l0 k x0 (wrap64 (x3 + 1)))))) else (none)) else (some true)
end
def r04_Element.f (k : Nat) (a0 : ByteArray) : Option (Bool) := if (a0.size : Int) = 0 then (r04_Element.j0 k a0 true) else (if 0 < (a0.size : Int) then (if (bt a0 0) = 46 then (r04_Element.j0 k a0 true) else (if 0 ≤ (wrap64 ((a0.size : Int) - 1)) then (if (wrap64 ((a0.size : Int) - 1)) < (a0.size : Int) then (r04_Element.j0 k a0 ((bt a0 (wrap64 ((a0.size : Int) - 1))) == 46)) else (none)) else (none))) else (none))
theorem r04_Element.mono_l : ∀ k, (∀ y0 y1, LeO (r04_Element.j0 k y0 y1) (r04_Element.j0 (k + 1) y0 y1)) ∧ (∀ y0 y1, LeO (r04_Element.l0 k y0 y1) (r04_Element.l0 (k + 1) y0 y1))
 | 0 => ⟨fun _ _ r h => by simp [r04_Element.j0] at h, fun _ _ r h => by simp [r04_Element.l0] at h⟩
 | k + 1 => by
  obtain ⟨ih0, ih1⟩ := r04_Element.mono_l k
  refine ⟨?_, ?_⟩
  ·intro y0 y1
   unfold r04_Element.j0
   repeat' first
   | (with_reducible exact ih0 _ _)
   | (with_reducible exact ih1 _ _)
   | (with_reducible exact r01_Class.mono _ _)
   | (with_reducible exact LeO.refl _)
   | (with_reducible exact LeO.none _)
   | (with_reducible refine LeO.ite ?_ ?_)
   | (with_reducible refine LeO.bind ?_ (fun _ => ?_))
   | exact ih0 _ _
   | exact ih1 _ _
   | exact r01_Class.mono _ _
   | exact LeO.none _
   | refine LeO.ite ?_ ?_
   | refine LeO.bind ?_ (fun _ => ?_)
  ·intro y0 y1
   unfold r04_Element.l0
   repeat' first
   | (with_reducible exact ih0 _ _)
   | (with_reducible exact ih1 _ _)
   | (with_reducible exact r01_Class.mono _ _)
   | (with_reducible exact LeO.refl _)
   | (with_reducible exact LeO.none _)
   | (with_reducible refine LeO.ite ?_ ?_)
   | (with_reducible refine LeO.bind ?_ (fun _ => ?_))
   | exact ih0 _ _
   | exact ih1 _ _
   | exact r01_Class.mono _ _
   | exact LeO.none _
   | refine LeO.ite ?_ ?_
   | refine LeO.bind ?_ (fun _ => ?_)
theorem r04_Element.mono : ∀ a0 k, LeO (r04_Element.f k a0) (r04_Element.f (k + 1) a0) := by
 intro a0 k
 obtain ⟨ih0, ih1⟩ := r04_Element.mono_l k
 unfold r04_Element.f
 repeat' first
   | (with_reducible exact ih0 _ _)
   | (with_reducible exact ih1 _ _)
   | (with_reducible exact r01_Class.mono _ _)
   | (with_reducible exact LeO.refl _)
   | (with_reducible exact LeO.none _)
   | (with_reducible refine LeO.ite ?_ ?_)
   | (with_reducible refine LeO.bind ?_ (fun _ => ?_))
   | exact ih0 _ _
   | exact ih1 _ _
   | exact r01_Class.mono _ _
   | exact LeO.none _
   | refine LeO.ite ?_ ?_
   | refine LeO.bind ?_ (fun _ => ?_)
set_option maxHeartbeats 8000000 in
set_option maxRecDepth 100000 in
theorem r04_Element.calls (k : Nat) (a0 : ByteArray) (r : Bool) (w : World) (h : r04_Element.f k a0 = some r) :
  Calls Tryz.prog 98 #[.string a0] w fun e w' => e = .returned (.bool r) ∧ Drawn0 w w' := by
 have H : (if (a0.size : Int) = 0 then (r04_Element.j0 k a0 true) else (if 0 < (a0.size : Int) then (if (bt a0 0) = 46 then (r04_Element.j0 k a0 true) else (if 0 ≤ (wrap64 ((a0.size : Int) - 1)) then (if (wrap64 ((a0.size : Int) - 1)) < (a0.size : Int) then (r04_Element.j0 k a0 ((bt a0 (wrap64 ((a0.size : Int) - 1))) == 46)) else (none)) else (none))) else (none))) = some r := h
 clear h
 have HC2 := Aside0.mk H
 clear H
 go_enter Tryz.func98, Tryz.ntmps98
 go_upto_region 1 with (fail)
 go_cut [20] (fun v20 wc => ∃ (kq : Nat) (x20_1 : Bool), v20 = .bool x20_1 ∧ Aside0 (r04_Element.j0 kq a0 x20_1 = some r) ∧ Aside0 (kq ≤ k) ∧ Drawn0 w wc)
 case first =>
  have H := HC2.out
  clear HC2
  by_cases c3 : (a0.size : Int) = 0
  ·rw [if_pos c3] at H
   have c3b0 := beq_iff_eq.mpr c3
   have c3b1 := bne_eq_false_iff_eq.mpr c3
   clear c3
   (first | rw [c3b0] | (simp only [i64_w, i32_w]; rw [c3b0]) | skip)
   have H' := Aside0.mk H
   clear H
   go_wp2
   go_meet
   case rel => exact ⟨_, (true), (by first | rfl | (simp; done) | (simp [*]; done)), H', ⟨by first | omega | exact Nat.le_refl _⟩, by repeat (first | exact Drawn0.refl _ | apply Drawn0.step)⟩
  ·rw [if_neg c3] at H
   have c3b0 := beq_eq_false_iff_ne.mpr c3
   have c3b1 := bne_iff_ne.mpr c3
   (first | rw [c3b0] | (simp only [i64_w, i32_w]; rw [c3b0]) | skip)
   by_cases c4 : 0 < (a0.size : Int)
   ·rw [if_pos c4] at H
    have c4b0 : decide (0 < (a0.size : Int)) = true := decide_eq_true c4
    have c4b1 : decide (0 < a0.size) = true := decide_eq_true (by omega)
    clear c4
    by_cases c6 : (bt a0 0) = 46
    ·rw [if_pos c6] at H
     have c6b0 := beq_iff_eq.mpr c6
     have c6b1 := bne_eq_false_iff_eq.mpr c6
     clear c6
     have H' := Aside0.mk H
     clear H
     have p5 : 0 ≤ (0 : Int) := (by omega)
     have q5 : 0 < a0.size := (by have : (0 : Int) < (a0.size : Int) := of_decide_eq_true (by first | (with_reducible assumption) | assumption); omega)
     have hx5 : ∀ h : 0 < a0.size, ((a0[0]'h).toNat : Int) = bt a0 0 := bt_at a0 0
     clear p5
     have qi5 : (0 < (a0.size : Int)) = True := eq_true (of_decide_eq_true (by first | (with_reducible assumption) | assumption))
     replace q5 := eq_true q5
     go_wp2
     go_meet
     case rel => exact ⟨_, (true), (by first | rfl | (simp; done) | (simp [*]; done)), H', ⟨by first | omega | exact Nat.le_refl _⟩, by repeat (first | exact Drawn0.refl _ | apply Drawn0.step)⟩
    ·rw [if_neg c6] at H
     have c6b0 := beq_eq_false_iff_ne.mpr c6
     have c6b1 := bne_iff_ne.mpr c6
     obtain ⟨ji7, hji7⟩ : ∃ j_ : Int, (wrap64 ((a0.size : Int) - 1)) = j_ := ⟨_, rfl⟩
     replace H : (if 0 ≤ (ji7) then (if (ji7) < (a0.size : Int) then (r04_Element.j0 k a0 ((bt a0 (ji7)) == 46)) else (none)) else (none)) = some r := by first | (rw [hji7] at H; exact H) | (simp only [hji7] at H ⊢; exact H)
     have hji7w : (IntKind.i64.wrap ((a0.size : Int) - 1)) = ji7 := (i64_w _).trans hji7
     by_cases c8 : 0 ≤ (ji7)
     ·rw [if_pos c8] at H
      have c8b0 : decide (0 ≤ (ji7)) = true := decide_eq_true c8
      clear c8
      by_cases c9 : (ji7) < (a0.size : Int)
      ·rw [if_pos c9] at H
       have c9b0 : decide ((ji7) < (a0.size : Int)) = true := decide_eq_true c9
       clear c9
       have H' := Aside0.mk H
       clear H
       have p5 : 0 ≤ (0 : Int) := (by omega)
       have q5 : 0 < a0.size := (by have : (0 : Int) < (a0.size : Int) := of_decide_eq_true (by first | (with_reducible assumption) | assumption); omega)
       have hx5 : ∀ h : 0 < a0.size, ((a0[0]'h).toNat : Int) = bt a0 0 := bt_at a0 0
       clear p5
       have qi5 : (0 < (a0.size : Int)) = True := eq_true (of_decide_eq_true (by first | (with_reducible assumption) | assumption))
       replace q5 := eq_true q5
       have p10 : 0 ≤ ((ji7) : Int) := of_decide_eq_true (by first | (with_reducible assumption) | assumption)
       have q10 : (ji7) < (a0.size : Int) := of_decide_eq_true (by first | (with_reducible assumption) | assumption)
       have hx10 := bt_at a0 (ji7)
       replace p10 := eq_true p10
       replace q10 := eq_true q10
       go_wp2
       go_meet
       case rel => exact ⟨_, (((bt a0 (ji7)) == 46)), (by first | rfl | (simp; done) | (simp only [← hji7] <;> (first | rfl | simp)) | (simp [*]; done)), H', ⟨by first | omega | exact Nat.le_refl _⟩, by repeat (first | exact Drawn0.refl _ | apply Drawn0.step)⟩
      ·rw [if_neg c9] at H
       exact absurd H (by simp)
     ·rw [if_neg c8] at H
      exact absurd H (by simp)
   ·rw [if_neg c4] at H
    exact absurd H (by simp)
 case rest =>
  clear HC2
  try clear p1
  try clear q1
  try clear hx1
  try clear p2
  try clear c3
  try clear c3b0
  try clear c3b1
  try clear c4
  try clear c4b0
  try clear c4b1
  try clear p5
  try clear q5
  try clear hx5
  try clear qi5
  try clear c6
  try clear c6b0
  try clear c6b1
  try clear p6
  try clear c8
  try clear c8b0
  try clear c9
  try clear c9b0
  try clear p10
  try clear q10
  try clear hx10
  try clear p10
  try clear p5
  try clear q10
  try clear q5
  obtain ⟨kq, x20_1, rfl, HA, HJ1, ⟨mc1, rfl⟩⟩ := hcut
  cases kq with
  | zero => exact absurd HA.out (by simp [r04_Element.j0])
  | succ kj1 =>
   have H := HA.out
   clear HA
   simp only [r04_Element.j0] at H
   by_cases c11 : x20_1 = true
   ·subst c11
    replace H := it H
    obtain rfl := Option.some.inj H
    go_wp2
    go_ret
    exact ⟨by first | rfl | (simp; done) | (simp [*]; done), by repeat (first | exact Drawn0.refl _ | apply Drawn0.step)⟩
   ·replace c11 := Bool.eq_false_iff.mpr c11
    subst c11
    replace H := jf H
    have H' := Aside0.mk H
    clear H
    go_wp2
    go_loopg [3] kj1 (fun kq v3 w' => ∃ (x3_2 : Int), v3 = .int .i64 x3_2 ∧ Aside0 (r04_Element.l0 kq a0 x3_2 = some r) ∧ Aside0 (kq ≤ kj1) ∧ Drawn0 w w')
    case atStart => exact ⟨(0), (by first | rfl | (simp; done) | (simp [*]; done)), H', ⟨Nat.le_refl _⟩, by repeat (first | exact Drawn0.refl _ | apply Drawn0.step)⟩
    case round =>
     clear H'
     try clear c1
     try clear p1
     try clear q1
     try clear hx1
     try clear p2
     try clear c3
     try clear c3b0
     try clear c3b1
     try clear c4
     try clear c4b0
     try clear c4b1
     try clear p5
     try clear q5
     try clear hx5
     try clear qi5
     try clear c6
     try clear c6b0
     try clear c6b1
     try clear p6
     try clear c8
     try clear c8b0
     try clear c9
     try clear c9b0
     try clear p10
     try clear q10
     try clear hx10
     try clear c11
     try clear p1
     try clear p10
     try clear p2
     try clear p5
     try clear p6
     try clear q1
     try clear q10
     try clear q5
     obtain ⟨x3_2, rfl, HA, HK2, ⟨m2, rfl⟩⟩ := hrel
     cases gk with
     | zero => exact absurd HA.out (by simp [r04_Element.l0])
     | succ k2 =>
      have H := HA.out
      clear HA
      simp only [r04_Element.l0] at H
      by_cases c12 : x3_2 < (a0.size : Int)
      ·rw [if_pos c12] at H
       have c12b0 : decide (x3_2 < (a0.size : Int)) = true := decide_eq_true c12
       clear c12
       by_cases c13 : 0 ≤ x3_2
       ·rw [if_pos c13] at H
        have c13b0 : decide (0 ≤ x3_2) = true := decide_eq_true c13
        clear c13
        obtain ⟨t236, A15, H⟩ := bo H
        by_cases c16 : t236 < 1
        ·rw [if_pos c16] at H
         have c16b0 : decide (t236 < 1) = true := decide_eq_true c16
         clear c16
         obtain rfl := Option.some.inj H
         have p14 : 0 ≤ (x3_2 : Int) := of_decide_eq_true (by first | (with_reducible assumption) | assumption)
         have q14 : x3_2 < (a0.size : Int) := of_decide_eq_true (by first | (with_reducible assumption) | assumption)
         have hx14 := bt_at a0 x3_2
         replace p14 := eq_true p14
         replace q14 := eq_true q14
         go_wp2_with (first | ((with_reducible refine gate_callee (f := 134) rfl ?_); refine gl 30 Tryz.func134 #[.int .u8 (bt a0 x3_2)] ?_; (with_reducible refine (r01_Class.calls k2 (bt a0 x3_2) t236 _ A15.out).mono ?_); rintro e w' ⟨rfl, ⟨nd, rfl⟩⟩; refine ⟨_, rfl, ?_⟩))
         go_ret
         exact ⟨by first | rfl | (simp; done) | (simp [*]; done), by repeat (first | exact Drawn0.refl _ | apply Drawn0.step)⟩
        ·rw [if_neg c16] at H
         have c16b0 : decide (t236 < 1) = false := decide_eq_false c16
         clear c16
         by_cases c17 : t236 > 3
         ·rw [if_pos c17] at H
          have c17b0 : decide (3 < t236) = true := decide_eq_true c17
          clear c17
          obtain rfl := Option.some.inj H
          have p14 : 0 ≤ (x3_2 : Int) := of_decide_eq_true (by first | (with_reducible assumption) | assumption)
          have q14 : x3_2 < (a0.size : Int) := of_decide_eq_true (by first | (with_reducible assumption) | assumption)
          have hx14 := bt_at a0 x3_2
          replace p14 := eq_true p14
          replace q14 := eq_true q14
          go_wp2_with (first | ((with_reducible refine gate_callee (f := 134) rfl ?_); refine gl 30 Tryz.func134 #[.int .u8 (bt a0 x3_2)] ?_; (with_reducible refine (r01_Class.calls k2 (bt a0 x3_2) t236 _ A15.out).mono ?_); rintro e w' ⟨rfl, ⟨nd, rfl⟩⟩; refine ⟨_, rfl, ?_⟩))
          go_ret
          exact ⟨by first | rfl | (simp; done) | (simp [*]; done), by repeat (first | exact Drawn0.refl _ | apply Drawn0.step)⟩
         ·rw [if_neg c17] at H
          have c17b0 : decide (3 < t236) = false := decide_eq_false c17
          clear c17
          have H' := Aside0.mk H
          clear H
          have p14 : 0 ≤ (x3_2 : Int) := of_decide_eq_true (by first | (with_reducible assumption) | assumption)
          have q14 : x3_2 < (a0.size : Int) := of_decide_eq_true (by first | (with_reducible assumption) | assumption)
          have hx14 := bt_at a0 x3_2
          replace p14 := eq_true p14
          replace q14 := eq_true q14
          go_wp2_with (first | ((with_reducible refine gate_callee (f := 134) rfl ?_); refine gl 30 Tryz.func134 #[.int .u8 (bt a0 x3_2)] ?_; (with_reducible refine (r01_Class.calls k2 (bt a0 x3_2) t236 _ A15.out).mono ?_); rintro e w' ⟨rfl, ⟨nd, rfl⟩⟩; refine ⟨_, rfl, ?_⟩))
          go_roundg k2
          case measure => have := HJ1.out; have := HK2.out; omega
          case rel => exact ⟨(wrap64 (x3_2 + 1)), (by first | rfl | (simp; done) | (simp [*]; done)), H', ⟨by have := HJ1.out; have := HK2.out; omega⟩, by repeat (first | exact Drawn0.refl _ | apply Drawn0.step)⟩
       ·rw [if_neg c13] at H
        exact absurd H (by simp)
      ·rw [if_neg c12] at H
       have c12b0 : decide (x3_2 < (a0.size : Int)) = false := decide_eq_false c12
       clear c12
       obtain rfl := Option.some.inj H
       go_wp2
       go_ret
       exact ⟨by first | rfl | (simp; done) | (simp [*]; done), by repeat (first | exact Drawn0.refl _ | apply Drawn0.step)⟩
end Go.Proofs.YtjfcmkddeglghaaGreatDoor.G
end
section
namespace Go.Proofs.YtjfcmkddeglghaaGreatDoor.G
open Go.RowKit Go.Proofs.YtjfcmkddeglghaaGreatDoorW.PrintWords Go.Proofs.YtjfcmkddeglghaaGreatDoorW.PrintLast Go.Proofs.YtjfcmkddeglghaaGreatDoorW.PrintMore
attribute [local go_sem] max2_int min2_int max_two min_two max_three min_three max_four min_four
set_option linter.unusedVariables false
set_option linter.unusedSimpArgs false
def r04_May.l0 : Nat → List ByteArray → Int → Option (Bool)
 | 0, _, _ => none
 | k + 1, x3, x4 => if x4 < (x3.length : Int) then (if 0 ≤ x4 then ((r04_Element.f k (rdOf ByteArray.empty x3 x4)).bind fun t241 => (if t241 = true then (r04_May.l0 k x3 (wrap64 (x4 + 1))) else (some false))) else (none)) else (some true)
def r04_May.f (k : Nat) (a0 : ByteArray) : Option (Bool) := (r01_Parts.f k a0 47).bind fun t237 => (r04_May.l0 k t237 0)
theorem r04_May.mono_l : ∀ k, (∀ y0 y1, LeO (r04_May.l0 k y0 y1) (r04_May.l0 (k + 1) y0 y1))
 | 0 => fun _ _ r h => by simp [r04_May.l0] at h
 | k + 1 => by
  have ih0 := r04_May.mono_l k
  ·intro y0 y1
   unfold r04_May.l0
   repeat' first
   | (with_reducible exact ih0 _ _)
   | (with_reducible exact r01_Parts.mono _ _ _)
   | (with_reducible exact r04_Element.mono _ _)
   | (with_reducible exact LeO.refl _)
   | (with_reducible exact LeO.none _)
   | (with_reducible refine LeO.ite ?_ ?_)
   | (with_reducible refine LeO.bind ?_ (fun _ => ?_))
   | exact ih0 _ _
   | exact r01_Parts.mono _ _ _
   | exact r04_Element.mono _ _
   | exact LeO.none _
   | refine LeO.ite ?_ ?_
   | refine LeO.bind ?_ (fun _ => ?_)
theorem r04_May.mono : ∀ a0 k, LeO (r04_May.f k a0) (r04_May.f (k + 1) a0) := by
 intro a0 k
 have ih0 := r04_May.mono_l k
 unfold r04_May.f
 repeat' first
   | (with_reducible exact ih0 _ _)
   | (with_reducible exact r01_Parts.mono _ _ _)
   | (with_reducible exact r04_Element.mono _ _)
   | (with_reducible exact LeO.refl _)
   | (with_reducible exact LeO.none _)
   | (with_reducible refine LeO.ite ?_ ?_)
   | (with_reducible refine LeO.bind ?_ (fun _ => ?_))
   | exact ih0 _ _
   | exact r01_Parts.mono _ _ _
   | exact r04_Element.mono _ _
   | exact LeO.none _
   | refine LeO.ite ?_ ?_
   | refine LeO.bind ?_ (fun _ => ?_)
set_option maxHeartbeats 8000000 in
set_option maxRecDepth 100000 in
theorem r04_May.calls (k : Nat) (a0 : ByteArray) (r : Bool) (w : World) (h : r04_May.f k a0 = some r) :
  Calls Tryz.prog 54 #[.string a0] w fun e w' => e = .returned (.bool r) ∧ Below w.heap.size w w' := by
 have HB := Aside0.mk (Below.refl w.heap.size w)
 have H : ((r01_Parts.f k a0 47).bind fun t237 => (r04_May.l0 k t237 0)) = some r := h
 clear h
 obtain ⟨t237, A2, H⟩ := bo H
 have H' := Aside0.mk H
 clear H
 go_enter Tryz.func54, Tryz.ntmps54
 go_wp2_with (first | ((with_reducible refine gate_callee (f := 97) rfl ?_); refine gl 6 Tryz.func97 #[.string a0, .int .u8 47] ?_; (with_reducible refine (r01_Parts.calls k a0 47 t237 _ A2.out).mono ?_); rintro e w3 ⟨v238, rfl, ho0, hb⟩; refine ⟨_, rfl, ?_⟩; have n0_ := Aside0.mk (Kd.R_lower ho0 (bz HB)); have n1_ := bs HB hb; revert n0_ n1_; clear HB; intro HO239 HB; (try clear hb); (try clear ho0)))
 go_loopg [4] k (fun kq v4 w' => ∃ (x4_1 : Int), v4 = .int .i64 x4_1 ∧ Aside0 (r04_May.l0 kq t237 x4_1 = some r) ∧ Aside0 (kq ≤ k) ∧ Aside0 (Kd.R Kd.string 9 w' w.heap.size (fun _ => True) v238 t237) ∧ Aside0 (Below w.heap.size w w'))
 case atStart => exact ⟨(0), (by first | rfl | (simp; done) | (simp [*]; done)), H', ⟨Nat.le_refl _⟩, ⟨ra HO239⟩, ⟨ba HB⟩⟩
 case round =>
  clear H'
  try clear p2
  obtain ⟨x4_1, rfl, HA, HK1, HO_3, HB⟩ := hrel
  cases gk with
  | zero => exact absurd HA.out (by simp [r04_May.l0])
  | succ k1 =>
   have H := HA.out
   clear HA
   simp only [r04_May.l0] at H
   by_cases c4 : x4_1 < (t237.length : Int)
   ·rw [if_pos c4] at H
    have c4b0 : decide (x4_1 < (t237.length : Int)) = true := decide_eq_true c4
    clear c4
    by_cases c5 : 0 ≤ x4_1
    ·rw [if_pos c5] at H
     have c5b0 : decide (0 ≤ x4_1) = true := decide_eq_true c5
     clear c5
     obtain ⟨t241, A6, H⟩ := bo H
     by_cases c7 : t241 = true
     ·subst c7
      replace H := it H
      have H' := Aside0.mk H
      clear H
      obtain ⟨Ao8, co8, eo8⟩ := Kd.R_slice HO_3.out
      subst eo8
      have p240 : 0 ≤ (x4_1 : Int) := of_decide_eq_true (by first | (with_reducible assumption) | assumption)
      have q240 : x4_1 < (t237.length : Int) := of_decide_eq_true (by first | (with_reducible assumption) | assumption)
      obtain ⟨ad240, e240, hx240_0⟩ := Kd.at_string (Kd.R_reads' HO_3.out).2.2 x4_1 p240 q240
      cases e240
      replace p240 := eq_true p240
      replace q240 := eq_true q240
      go_wp2_with (first | ((with_reducible refine gate_callee (f := 98) rfl ?_); refine gl 17 Tryz.func98 #[.string (rdOf ByteArray.empty t237 x4_1)] ?_; (with_reducible refine (r04_Element.calls k1 (rdOf ByteArray.empty t237 x4_1) true _ A6.out).mono ?_); rintro e w' ⟨rfl, ⟨nd, rfl⟩⟩; refine ⟨_, rfl, ?_⟩))
      go_roundg k1
      case measure => have := HK1.out; omega
      case rel => exact ⟨(wrap64 (x4_1 + 1)), (by first | rfl | (simp; done) | (simp [*]; done)), H', ⟨by have := HK1.out; omega⟩, ⟨ra HO_3⟩, ⟨ba HB⟩⟩
     ·replace c7 := Bool.eq_false_iff.mpr c7
      subst c7
      replace H := jf H
      obtain rfl := Option.some.inj H
      obtain ⟨Ao9, co9, eo9⟩ := Kd.R_slice HO_3.out
      subst eo9
      have p240 : 0 ≤ (x4_1 : Int) := of_decide_eq_true (by first | (with_reducible assumption) | assumption)
      have q240 : x4_1 < (t237.length : Int) := of_decide_eq_true (by first | (with_reducible assumption) | assumption)
      obtain ⟨ad240, e240, hx240_0⟩ := Kd.at_string (Kd.R_reads' HO_3.out).2.2 x4_1 p240 q240
      cases e240
      replace p240 := eq_true p240
      replace q240 := eq_true q240
      go_wp2_with (first | ((with_reducible refine gate_callee (f := 98) rfl ?_); refine gl 17 Tryz.func98 #[.string (rdOf ByteArray.empty t237 x4_1)] ?_; (with_reducible refine (r04_Element.calls k1 (rdOf ByteArray.empty t237 x4_1) false _ A6.out).mono ?_); rintro e w' ⟨rfl, ⟨nd, rfl⟩⟩; refine ⟨_, rfl, ?_⟩))
      go_ret
      exact ⟨by first | rfl | (simp [errW_none, errW_some] <;> rfl) | (simp [*, errW_none, errW_some] <;> rfl), ba HB⟩
    ·rw [if_neg c5] at H
     exact absurd H (by simp)
   ·rw [if_neg c4] at H
    have c4b0 : decide (x4_1 < (t237.length : Int)) = false := decide_eq_false c4
    clear c4
    obtain rfl := Option.some.inj H
    obtain ⟨Ao10, co10, eo10⟩ := Kd.R_slice HO_3.out
    subst eo10
    go_wp2
    go_ret
    exact ⟨by first | rfl | (simp [errW_none, errW_some] <;> rfl) | (simp [*, errW_none, errW_some] <;> rfl), ba HB⟩
end Go.Proofs.YtjfcmkddeglghaaGreatDoor.G
end
section
namespace Go.Proofs.YtjfcmkddeglghaaGreatDoor.G
open Go.RowKit Go.Proofs.YtjfcmkddeglghaaGreatDoorW.PrintWords Go.Proofs.YtjfcmkddeglghaaGreatDoorW.PrintLast Go.Proofs.YtjfcmkddeglghaaGreatDoorW.PrintMore
attribute [local go_sem] max2_int min2_int max_two min_two max_three min_three max_four min_four
set_option linter.unusedVariables false
set_option linter.unusedSimpArgs false
def r02_digit.f (a0 : Int) : Option (Int) := if a0 < 48 then (some (-1)) else (if a0 > 57 then (some (-1)) else (some (wrap64 ((wrap64 (a0)) - 48))))
set_option maxHeartbeats 8000000 in
set_option maxRecDepth 100000 in
theorem r02_digit.calls (a0 : Int) (r : Int) (w : World) (h : r02_digit.f a0 = some r) :
  Calls Tryz.prog 175 #[.int .u8 a0] w fun e w' => e = .returned (.int .i64 r) ∧ Drawn0 w w' := by
 have H : (if a0 < 48 then (some (-1)) else (if a0 > 57 then (some (-1)) else (some (wrap64 ((wrap64 (a0)) - 48))))) = some r := h
 clear h
 by_cases c2 : a0 < 48
 ·rw [if_pos c2] at H
  have c2b0 : decide (a0 < 48) = true := decide_eq_true c2
  clear c2
  obtain rfl := Option.some.inj H
  go_enter Tryz.func175, Tryz.ntmps175
  go_wp2
  go_ret
  exact ⟨by first | rfl | (simp; done) | (simp [*]; done), by repeat (first | exact Drawn0.refl _ | apply Drawn0.step)⟩
 ·rw [if_neg c2] at H
  have c2b0 : decide (a0 < 48) = false := decide_eq_false c2
  clear c2
  by_cases c3 : a0 > 57
  ·rw [if_pos c3] at H
   have c3b0 : decide (57 < a0) = true := decide_eq_true c3
   clear c3
   obtain rfl := Option.some.inj H
   go_enter Tryz.func175, Tryz.ntmps175
   go_wp2
   go_ret
   exact ⟨by first | rfl | (simp; done) | (simp [*]; done), by repeat (first | exact Drawn0.refl _ | apply Drawn0.step)⟩
  ·rw [if_neg c3] at H
   have c3b0 : decide (57 < a0) = false := decide_eq_false c3
   clear c3
   obtain rfl := Option.some.inj H
   go_enter Tryz.func175, Tryz.ntmps175
   go_wp2
   go_ret
   exact ⟨by first | rfl | (simp; done) | (simp [*]; done), by repeat (first | exact Drawn0.refl _ | apply Drawn0.step)⟩
end Go.Proofs.YtjfcmkddeglghaaGreatDoor.G
end
section
namespace Go.Proofs.YtjfcmkddeglghaaGreatDoor.G
open Go.RowKit Go.Proofs.YtjfcmkddeglghaaGreatDoorW.PrintWords Go.Proofs.YtjfcmkddeglghaaGreatDoorW.PrintLast Go.Proofs.YtjfcmkddeglghaaGreatDoorW.PrintMore
attribute [local go_sem] max2_int min2_int max_two min_two max_three min_three max_four min_four
set_option linter.unusedVariables false
set_option linter.unusedSimpArgs false
def r02_May.l0 : Nat → ByteArray → Int → Option (Bool)
 | 0, _, _ => none
 | k + 1, x0, x3 => if x3 < (x0.size : Int) then (if 0 ≤ x3 then ((r02_digit.f (bt x0 x3)).bind fun t242 => (if t242 < 0 then (some false) else (r02_May.l0 k x0 (wrap64 (x3 + 1))))) else (none)) else (if (x0.size : Int) = 1 then (some true) else (if (x0.size : Int) > 1 then (if 0 < (x0.size : Int) then (some ((bt x0 0) != 48)) else (none)) else (some false)))
def r02_May.f (k : Nat) (a0 : ByteArray) : Option (Bool) := r02_May.l0 k a0 0
theorem r02_May.mono_l : ∀ k, (∀ y0 y1, LeO (r02_May.l0 k y0 y1) (r02_May.l0 (k + 1) y0 y1))
 | 0 => fun _ _ r h => by simp [r02_May.l0] at h
 | k + 1 => by
  have ih0 := r02_May.mono_l k
  ·intro y0 y1
   unfold r02_May.l0
   repeat' first
   | (with_reducible exact ih0 _ _)
   | (with_reducible exact LeO.refl _)
   | (with_reducible exact LeO.none _)
   | (with_reducible refine LeO.ite ?_ ?_)
   | (with_reducible refine LeO.bind ?_ (fun _ => ?_))
   | exact ih0 _ _
   | exact LeO.none _
   | refine LeO.ite ?_ ?_
   | refine LeO.bind ?_ (fun _ => ?_)
theorem r02_May.mono : ∀ a0 k, LeO (r02_May.f k a0) (r02_May.f (k + 1) a0) := by
 intro a0 k
 have ih0 := r02_May.mono_l k
 unfold r02_May.f
 repeat' first
   | (with_reducible exact ih0 _ _)
   | (with_reducible exact LeO.refl _)
   | (with_reducible exact LeO.none _)
   | (with_reducible refine LeO.ite ?_ ?_)
   | (with_reducible refine LeO.bind ?_ (fun _ => ?_))
   | exact ih0 _ _
   | exact LeO.none _
   | refine LeO.ite ?_ ?_
   | refine LeO.bind ?_ (fun _ => ?_)
set_option maxHeartbeats 8000000 in
set_option maxRecDepth 100000 in
theorem r02_May.calls (k : Nat) (a0 : ByteArray) (r : Bool) (w : World) (h : r02_May.f k a0 = some r) :
  Calls Tryz.prog 151 #[.string a0] w fun e w' => e = .returned (.bool r) ∧ Drawn0 w w' := by
 have H : (r02_May.l0 k a0 0) = some r := h
 clear h
 have H' := Aside0.mk H
 clear H
 go_enter Tryz.func151, Tryz.ntmps151
 go_wp2
 go_loopg [3] k (fun kq v3 w' => ∃ (x3_1 : Int), v3 = .int .i64 x3_1 ∧ Aside0 (r02_May.l0 kq a0 x3_1 = some r) ∧ Aside0 (kq ≤ k) ∧ Drawn0 w w')
 case atStart => exact ⟨(0), (by first | rfl | (simp; done) | (simp [*]; done)), H', ⟨Nat.le_refl _⟩, by repeat (first | exact Drawn0.refl _ | apply Drawn0.step)⟩
 case round =>
  clear H'
  try clear c1
  obtain ⟨x3_1, rfl, HA, HK1, ⟨m1, rfl⟩⟩ := hrel
  cases gk with
  | zero => exact absurd HA.out (by simp [r02_May.l0])
  | succ k1 =>
   have H := HA.out
   clear HA
   simp only [r02_May.l0] at H
   by_cases c2 : x3_1 < (a0.size : Int)
   ·rw [if_pos c2] at H
    have c2b0 : decide (x3_1 < (a0.size : Int)) = true := decide_eq_true c2
    clear c2
    by_cases c3 : 0 ≤ x3_1
    ·rw [if_pos c3] at H
     have c3b0 : decide (0 ≤ x3_1) = true := decide_eq_true c3
     clear c3
     obtain ⟨t242, A5, H⟩ := bo H
     by_cases c6 : t242 < 0
     ·rw [if_pos c6] at H
      have c6b0 : decide (t242 < 0) = true := decide_eq_true c6
      clear c6
      obtain rfl := Option.some.inj H
      have p4 : 0 ≤ (x3_1 : Int) := of_decide_eq_true (by first | (with_reducible assumption) | assumption)
      have q4 : x3_1 < (a0.size : Int) := of_decide_eq_true (by first | (with_reducible assumption) | assumption)
      have hx4 := bt_at a0 x3_1
      replace p4 := eq_true p4
      replace q4 := eq_true q4
      go_wp2_with (first | ((with_reducible refine gate_callee (f := 175) rfl ?_); refine gl 13 Tryz.func175 #[.int .u8 (bt a0 x3_1)] ?_; (with_reducible refine (r02_digit.calls (bt a0 x3_1) t242 _ A5.out).mono ?_); rintro e w' ⟨rfl, ⟨nd, rfl⟩⟩; refine ⟨_, rfl, ?_⟩))
      go_ret
      exact ⟨by first | rfl | (simp; done) | (simp [*]; done), by repeat (first | exact Drawn0.refl _ | apply Drawn0.step)⟩
     ·rw [if_neg c6] at H
      have c6b0 : decide (t242 < 0) = false := decide_eq_false c6
      clear c6
      have H' := Aside0.mk H
      clear H
      have p4 : 0 ≤ (x3_1 : Int) := of_decide_eq_true (by first | (with_reducible assumption) | assumption)
      have q4 : x3_1 < (a0.size : Int) := of_decide_eq_true (by first | (with_reducible assumption) | assumption)
      have hx4 := bt_at a0 x3_1
      replace p4 := eq_true p4
      replace q4 := eq_true q4
      go_wp2_with (first | ((with_reducible refine gate_callee (f := 175) rfl ?_); refine gl 13 Tryz.func175 #[.int .u8 (bt a0 x3_1)] ?_; (with_reducible refine (r02_digit.calls (bt a0 x3_1) t242 _ A5.out).mono ?_); rintro e w' ⟨rfl, ⟨nd, rfl⟩⟩; refine ⟨_, rfl, ?_⟩))
      go_roundg k1
      case measure => have := HK1.out; omega
      case rel => exact ⟨(wrap64 (x3_1 + 1)), (by first | rfl | (simp; done) | (simp [*]; done)), H', ⟨by have := HK1.out; omega⟩, by repeat (first | exact Drawn0.refl _ | apply Drawn0.step)⟩
    ·rw [if_neg c3] at H
     exact absurd H (by simp)
   ·rw [if_neg c2] at H
    have c2b0 : decide (x3_1 < (a0.size : Int)) = false := decide_eq_false c2
    clear c2
    by_cases c7 : (a0.size : Int) = 1
    ·rw [if_pos c7] at H
     have c7b0 := beq_iff_eq.mpr c7
     have c7b1 := bne_eq_false_iff_eq.mpr c7
     clear c7
     obtain rfl := Option.some.inj H
     go_wp2
     go_ret
     exact ⟨by first | rfl | (simp; done) | (simp [*]; done), by repeat (first | exact Drawn0.refl _ | apply Drawn0.step)⟩
    ·rw [if_neg c7] at H
     have c7b0 := beq_eq_false_iff_ne.mpr c7
     have c7b1 := bne_iff_ne.mpr c7
     by_cases c8 : (a0.size : Int) > 1
     ·rw [if_pos c8] at H
      have c8b0 : decide (1 < (a0.size : Int)) = true := decide_eq_true c8
      have c8b1 : decide (1 < a0.size) = true := decide_eq_true (by omega)
      clear c8
      by_cases c9 : 0 < (a0.size : Int)
      ·rw [if_pos c9] at H
       have c9b0 : decide (0 < (a0.size : Int)) = true := decide_eq_true c9
       have c9b1 : decide (0 < a0.size) = true := decide_eq_true (by omega)
       clear c9
       obtain rfl := Option.some.inj H
       have p10 : 0 ≤ (0 : Int) := (by omega)
       have q10 : 0 < a0.size := (by have : (0 : Int) < (a0.size : Int) := of_decide_eq_true (by first | (with_reducible assumption) | assumption); omega)
       have hx10 : ∀ h : 0 < a0.size, ((a0[0]'h).toNat : Int) = bt a0 0 := bt_at a0 0
       clear p10
       have qi10 : (0 < (a0.size : Int)) = True := eq_true (of_decide_eq_true (by first | (with_reducible assumption) | assumption))
       replace q10 := eq_true q10
       go_wp2
       go_ret
       exact ⟨by first | rfl | (simp; done) | (simp [*]; done), by repeat (first | exact Drawn0.refl _ | apply Drawn0.step)⟩
      ·rw [if_neg c9] at H
       exact absurd H (by simp)
     ·rw [if_neg c8] at H
      have c8b0 : decide (1 < (a0.size : Int)) = false := decide_eq_false c8
      have c8b1 : decide (1 < a0.size) = false := decide_eq_false (by omega)
      clear c8
      obtain rfl := Option.some.inj H
      go_wp2
      go_ret
      exact ⟨by first | rfl | (simp; done) | (simp [*]; done), by repeat (first | exact Drawn0.refl _ | apply Drawn0.step)⟩
end Go.Proofs.YtjfcmkddeglghaaGreatDoor.G
end
section
namespace Go.Proofs.YtjfcmkddeglghaaGreatDoor.G
open Go.RowKit Go.Proofs.YtjfcmkddeglghaaGreatDoorW.PrintWords Go.Proofs.YtjfcmkddeglghaaGreatDoorW.PrintLast Go.Proofs.YtjfcmkddeglghaaGreatDoorW.PrintMore
attribute [local go_sem] max2_int min2_int max_two min_two max_three min_three max_four min_four
set_option linter.unusedVariables false
set_option linter.unusedSimpArgs false
def r03_Word.l0 : Nat → ByteArray → Bool → Int → Option (Bool)
 | 0, _, _, _ => none
 | k + 1, x0, x3, x4 => if x4 < (x0.size : Int) then (if 0 ≤ x4 then ((r01_Class.f k (bt x0 x4)).bind fun t244 => (if t244 = 1 then (r03_Word.l0 k x0 x3 (wrap64 (x4 + 1))) else (if t244 = 2 then (r03_Word.l0 k x0 false (wrap64 (x4 + 1))) else (if (bt x0 x4) = 45 then (r03_Word.l0 k x0 false (wrap64 (x4 + 1))) else (some false))))) else (none)) else (if (x0.size : Int) > 0 then (if x3 = true then ((r02_May.f k x0).bind fun t243 => (some t243)) else (some true)) else (some false))
def r03_Word.f (k : Nat) (a0 : ByteArray) : Option (Bool) := r03_Word.l0 k a0 true 0
theorem r03_Word.mono_l : ∀ k, (∀ y0 y1 y2, LeO (r03_Word.l0 k y0 y1 y2) (r03_Word.l0 (k + 1) y0 y1 y2))
 | 0 => fun _ _ _ r h => by simp [r03_Word.l0] at h
 | k + 1 => by
  have ih0 := r03_Word.mono_l k
  ·intro y0 y1 y2
   unfold r03_Word.l0
   repeat' first
   | (with_reducible exact ih0 _ _ _)
   | (with_reducible exact r01_Class.mono _ _)
   | (with_reducible exact r02_May.mono _ _)
   | (with_reducible exact LeO.refl _)
   | (with_reducible exact LeO.none _)
   | (with_reducible refine LeO.ite ?_ ?_)
   | (with_reducible refine LeO.bind ?_ (fun _ => ?_))
   | exact ih0 _ _ _
   | exact r01_Class.mono _ _
   | exact r02_May.mono _ _
   | exact LeO.none _
   | refine LeO.ite ?_ ?_
   | refine LeO.bind ?_ (fun _ => ?_)
theorem r03_Word.mono : ∀ a0 k, LeO (r03_Word.f k a0) (r03_Word.f (k + 1) a0) := by
 intro a0 k
 have ih0 := r03_Word.mono_l k
 unfold r03_Word.f
 repeat' first
   | (with_reducible exact ih0 _ _ _)
   | (with_reducible exact r01_Class.mono _ _)
   | (with_reducible exact r02_May.mono _ _)
   | (with_reducible exact LeO.refl _)
   | (with_reducible exact LeO.none _)
   | (with_reducible refine LeO.ite ?_ ?_)
   | (with_reducible refine LeO.bind ?_ (fun _ => ?_))
   | exact ih0 _ _ _
   | exact r01_Class.mono _ _
   | exact r02_May.mono _ _
   | exact LeO.none _
   | refine LeO.ite ?_ ?_
   | refine LeO.bind ?_ (fun _ => ?_)
set_option maxHeartbeats 8000000 in
set_option maxRecDepth 100000 in
theorem r03_Word.calls (k : Nat) (a0 : ByteArray) (r : Bool) (w : World) (h : r03_Word.f k a0 = some r) :
  Calls Tryz.prog 152 #[.string a0] w fun e w' => e = .returned (.bool r) ∧ Drawn0 w w' := by
 have H : (r03_Word.l0 k a0 true 0) = some r := h
 clear h
 have H' := Aside0.mk H
 clear H
 go_enter Tryz.func152, Tryz.ntmps152
 go_wp2
 go_loopg [3, 4] k (fun kq v3 v4 w' => ∃ (x3_1 : Bool) (x4_1 : Int), v3 = .bool x3_1 ∧ v4 = .int .i64 x4_1 ∧ Aside0 (r03_Word.l0 kq a0 x3_1 x4_1 = some r) ∧ Aside0 (kq ≤ k) ∧ Drawn0 w w')
 case atStart => exact ⟨(true), (0), (by first | rfl | (simp; done) | (simp [*]; done)), (by first | rfl | (simp; done) | (simp [*]; done)), H', ⟨Nat.le_refl _⟩, by repeat (first | exact Drawn0.refl _ | apply Drawn0.step)⟩
 case round =>
  clear H'
  try clear c1
  obtain ⟨x3_1, x4_1, rfl, rfl, HA, HK1, ⟨m1, rfl⟩⟩ := hrel
  cases gk with
  | zero => exact absurd HA.out (by simp [r03_Word.l0])
  | succ k1 =>
   have H := HA.out
   clear HA
   simp only [r03_Word.l0] at H
   by_cases c2 : x4_1 < (a0.size : Int)
   ·rw [if_pos c2] at H
    have c2b0 : decide (x4_1 < (a0.size : Int)) = true := decide_eq_true c2
    clear c2
    by_cases c3 : 0 ≤ x4_1
    ·rw [if_pos c3] at H
     have c3b0 : decide (0 ≤ x4_1) = true := decide_eq_true c3
     clear c3
     obtain ⟨t244, A5, H⟩ := bo H
     by_cases c6 : t244 = 1
     ·rw [if_pos c6] at H
      have c6b0 := beq_iff_eq.mpr c6
      have c6b1 := bne_eq_false_iff_eq.mpr c6
      clear c6
      have H' := Aside0.mk H
      clear H
      have p4 : 0 ≤ (x4_1 : Int) := of_decide_eq_true (by first | (with_reducible assumption) | assumption)
      have q4 : x4_1 < (a0.size : Int) := of_decide_eq_true (by first | (with_reducible assumption) | assumption)
      have hx4 := bt_at a0 x4_1
      replace p4 := eq_true p4
      replace q4 := eq_true q4
      go_wp2_with (first | ((with_reducible refine gate_callee (f := 134) rfl ?_); refine gl 15 Tryz.func134 #[.int .u8 (bt a0 x4_1)] ?_; (with_reducible refine (r01_Class.calls k1 (bt a0 x4_1) t244 _ A5.out).mono ?_); rintro e w' ⟨rfl, ⟨nd, rfl⟩⟩; refine ⟨_, rfl, ?_⟩))
      go_roundg k1
      case measure => have := HK1.out; omega
      case rel => exact ⟨(x3_1), (wrap64 (x4_1 + 1)), (by first | rfl | (simp; done) | (simp [*]; done)), (by first | rfl | (simp; done) | (simp [*]; done)), H', ⟨by have := HK1.out; omega⟩, by repeat (first | exact Drawn0.refl _ | apply Drawn0.step)⟩
     ·rw [if_neg c6] at H
      have c6b0 := beq_eq_false_iff_ne.mpr c6
      have c6b1 := bne_iff_ne.mpr c6
      by_cases c7 : t244 = 2
      ·rw [if_pos c7] at H
       have c7b0 := beq_iff_eq.mpr c7
       have c7b1 := bne_eq_false_iff_eq.mpr c7
       clear c7
       have H' := Aside0.mk H
       clear H
       have p4 : 0 ≤ (x4_1 : Int) := of_decide_eq_true (by first | (with_reducible assumption) | assumption)
       have q4 : x4_1 < (a0.size : Int) := of_decide_eq_true (by first | (with_reducible assumption) | assumption)
       have hx4 := bt_at a0 x4_1
       replace p4 := eq_true p4
       replace q4 := eq_true q4
       go_wp2_with (first | ((with_reducible refine gate_callee (f := 134) rfl ?_); refine gl 15 Tryz.func134 #[.int .u8 (bt a0 x4_1)] ?_; (with_reducible refine (r01_Class.calls k1 (bt a0 x4_1) t244 _ A5.out).mono ?_); rintro e w' ⟨rfl, ⟨nd, rfl⟩⟩; refine ⟨_, rfl, ?_⟩))
       go_roundg k1
       case measure => have := HK1.out; omega
       case rel => exact ⟨(false), (wrap64 (x4_1 + 1)), (by first | rfl | (simp; done) | (simp [*]; done)), (by first | rfl | (simp; done) | (simp [*]; done)), H', ⟨by have := HK1.out; omega⟩, by repeat (first | exact Drawn0.refl _ | apply Drawn0.step)⟩
      ·rw [if_neg c7] at H
       have c7b0 := beq_eq_false_iff_ne.mpr c7
       have c7b1 := bne_iff_ne.mpr c7
       by_cases c9 : (bt a0 x4_1) = 45
       ·rw [if_pos c9] at H
        have c9b0 := beq_iff_eq.mpr c9
        have c9b1 := bne_eq_false_iff_eq.mpr c9
        clear c9
        have H' := Aside0.mk H
        clear H
        have p4 : 0 ≤ (x4_1 : Int) := of_decide_eq_true (by first | (with_reducible assumption) | assumption)
        have q4 : x4_1 < (a0.size : Int) := of_decide_eq_true (by first | (with_reducible assumption) | assumption)
        have hx4 := bt_at a0 x4_1
        replace p4 := eq_true p4
        replace q4 := eq_true q4
        go_wp2_with (first | ((with_reducible refine gate_callee (f := 134) rfl ?_); refine gl 15 Tryz.func134 #[.int .u8 (bt a0 x4_1)] ?_; (with_reducible refine (r01_Class.calls k1 (bt a0 x4_1) t244 _ A5.out).mono ?_); rintro e w' ⟨rfl, ⟨nd, rfl⟩⟩; refine ⟨_, rfl, ?_⟩; have p8 : 0 ≤ (x4_1 : Int) := of_decide_eq_true (by first | (with_reducible assumption) | assumption); have q8 : x4_1 < (a0.size : Int) := of_decide_eq_true (by first | (with_reducible assumption) | assumption); have hx8 := bt_at a0 x4_1; replace p8 := eq_true p8; replace q8 := eq_true q8))
        go_roundg k1
        case measure => have := HK1.out; omega
        case rel => exact ⟨(false), (wrap64 (x4_1 + 1)), (by first | rfl | (simp; done) | (simp [*]; done)), (by first | rfl | (simp; done) | (simp [*]; done)), H', ⟨by have := HK1.out; omega⟩, by repeat (first | exact Drawn0.refl _ | apply Drawn0.step)⟩
       ·rw [if_neg c9] at H
        have c9b0 := beq_eq_false_iff_ne.mpr c9
        have c9b1 := bne_iff_ne.mpr c9
        obtain rfl := Option.some.inj H
        have p4 : 0 ≤ (x4_1 : Int) := of_decide_eq_true (by first | (with_reducible assumption) | assumption)
        have q4 : x4_1 < (a0.size : Int) := of_decide_eq_true (by first | (with_reducible assumption) | assumption)
        have hx4 := bt_at a0 x4_1
        replace p4 := eq_true p4
        replace q4 := eq_true q4
        go_wp2_with (first | ((with_reducible refine gate_callee (f := 134) rfl ?_); refine gl 15 Tryz.func134 #[.int .u8 (bt a0 x4_1)] ?_; (with_reducible refine (r01_Class.calls k1 (bt a0 x4_1) t244 _ A5.out).mono ?_); rintro e w' ⟨rfl, ⟨nd, rfl⟩⟩; refine ⟨_, rfl, ?_⟩; have p8 : 0 ≤ (x4_1 : Int) := of_decide_eq_true (by first | (with_reducible assumption) | assumption); have q8 : x4_1 < (a0.size : Int) := of_decide_eq_true (by first | (with_reducible assumption) | assumption); have hx8 := bt_at a0 x4_1; replace p8 := eq_true p8; replace q8 := eq_true q8))
        go_ret
        exact ⟨by first | rfl | (simp; done) | (simp [*]; done), by repeat (first | exact Drawn0.refl _ | apply Drawn0.step)⟩
    ·rw [if_neg c3] at H
     exact absurd H (by simp)
   ·rw [if_neg c2] at H
    have c2b0 : decide (x4_1 < (a0.size : Int)) = false := decide_eq_false c2
    clear c2
    by_cases c10 : (a0.size : Int) > 0
    ·rw [if_pos c10] at H
     have c10b0 : decide (0 < (a0.size : Int)) = true := decide_eq_true c10
     have c10b1 : decide (0 < a0.size) = true := decide_eq_true (by omega)
     clear c10
     by_cases c11 : x3_1 = true
     ·subst c11
      replace H := it H
      obtain ⟨t243, A12, H⟩ := bo H
      obtain rfl := Option.some.inj H
      go_wp2_with (first | (go_at_call 151; (with_reducible refine (r02_May.calls k1 a0 t243 _ A12.out).mono ?_); rintro e w' ⟨rfl, ⟨nd, rfl⟩⟩))
      go_ret
      exact ⟨by first | rfl | (simp; done) | (simp [*]; done), by repeat (first | exact Drawn0.refl _ | apply Drawn0.step)⟩
     ·replace c11 := Bool.eq_false_iff.mpr c11
      subst c11
      replace H := jf H
      obtain rfl := Option.some.inj H
      go_wp2
      go_ret
      exact ⟨by first | rfl | (simp; done) | (simp [*]; done), by repeat (first | exact Drawn0.refl _ | apply Drawn0.step)⟩
    ·rw [if_neg c10] at H
     have c10b0 : decide (0 < (a0.size : Int)) = false := decide_eq_false c10
     have c10b1 : decide (0 < a0.size) = false := decide_eq_false (by omega)
     clear c10
     obtain rfl := Option.some.inj H
     go_wp2
     go_ret
     exact ⟨by first | rfl | (simp; done) | (simp [*]; done), by repeat (first | exact Drawn0.refl _ | apply Drawn0.step)⟩
end Go.Proofs.YtjfcmkddeglghaaGreatDoor.G
end
section
namespace Go.Proofs.YtjfcmkddeglghaaGreatDoor.G
open Go.RowKit Go.Proofs.YtjfcmkddeglghaaGreatDoorW.PrintWords Go.Proofs.YtjfcmkddeglghaaGreatDoorW.PrintLast Go.Proofs.YtjfcmkddeglghaaGreatDoorW.PrintMore
attribute [local go_sem] max2_int min2_int max_two min_two max_three min_three max_four min_four
set_option linter.unusedVariables false
set_option linter.unusedSimpArgs false
mutual
def r03_Split.j0 : Nat → ByteArray → Bool → ByteArray → ByteArray → ByteArray → Option (ByteArray × ByteArray × ByteArray × List ByteArray × Bool)
 | 0, _, _, _, _, _ => none
 | k + 1, x0, x17, x247000, x247001, x247002 => if x17 = true then (some (x247000, x247001, x247002, ([] : List ByteArray), false)) else (r03_Split.l0 k x0 (x0.size : Int) (wrap64 ((x0.size : Int) - 1)) x247000 x247001 x247002)
def r03_Split.l0 : Nat → ByteArray → Int → Int → ByteArray → ByteArray → ByteArray → Option (ByteArray × ByteArray × ByteArray × List ByteArray × Bool)
 | 0, _, _, _, _, _, _ => none
 | k + 1, x0, x5, x6, x247000, x247001, x247002 => if x6 ≥ 0 then (if 0 ≤ x6 then (if x6 < (x0.size : Int) then (if (bt x0 x6) = 45 then (r03_Split.l0 k x0 x6 (wrap64 (x6 - 1)) x247000 x247001 x247002) else (r03_Split.l0 k x0 x5 (wrap64 (x6 - 1)) x247000 x247001 x247002)) else (none)) else (none)) else (if 1 ≤ x5 then (if x5 ≤ (x0.size : Int) then ((r01_Parts.f k (x0.extract 1 (x5 : Int).toNat) 46).bind fun t247 => (if (t247.length : Int) = 3 then (if 0 < (t247.length : Int) then ((r02_May.f k (rdOf ByteArray.empty t247 0)).bind fun t251 => (if t251 = true then (if 1 < (t247.length : Int) then ((r02_May.f k (rdOf ByteArray.empty t247 1)).bind fun t253 => (if t253 = true then (if 2 < (t247.length : Int) then ((r02_May.f k (rdOf ByteArray.empty t247 2)).bind fun t255 => (r03_Split.j2 k x0 x5 t247 (!t255) x247000 x247001 x247002)) else (none)) else (r03_Split.j2 k x0 x5 t247 true x247000 x247001 x247002))) else (none)) else (r03_Split.j2 k x0 x5 t247 true x247000 x247001 x247002))) else (none)) else (r03_Split.j2 k x0 x5 t247 true x247000 x247001 x247002))) else (none)) else (none))
def r03_Split.j2 : Nat → ByteArray → Int → List ByteArray → Bool → ByteArray → ByteArray → ByteArray → Option (ByteArray × ByteArray × ByteArray × List ByteArray × Bool)
 | 0, _, _, _, _, _, _, _ => none
 | k + 1, x0, x5, x7, x60, x247000, x247001, x247002 => if x60 = true then (some (x247000, x247001, x247002, ([] : List ByteArray), false)) else (if 0 < (x7.length : Int) then (if 1 < (x7.length : Int) then (if 2 < (x7.length : Int) then (if x5 = (x0.size : Int) then (some (rdOf ByteArray.empty x7 0, rdOf ByteArray.empty x7 1, rdOf ByteArray.empty x7 2, ([] : List ByteArray), true)) else (if 0 ≤ (wrap64 (x5 + 1)) then (if (wrap64 (x5 + 1)) ≤ (x0.size : Int) then ((r01_Parts.f k (x0.extract ((wrap64 (x5 + 1)) : Int).toNat x0.size) 46).bind fun t259 => (r03_Split.l1 k 0 (rdOf ByteArray.empty x7 0) (rdOf ByteArray.empty x7 1) (rdOf ByteArray.empty x7 2) t259)) else (none)) else (none))) else (none)) else (none)) else (none))
def r03_Split.l1 : Nat → Int → ByteArray → ByteArray → ByteArray → List ByteArray → Option (ByteArray × ByteArray × ByteArray × List ByteArray × Bool)
 | 0, _, _, _, _, _ => none
 | k + 1, x8, x247000, x247001, x247002, x247003 => if x8 < (x247003.length : Int) then (if 0 ≤ x8 then ((r03_Word.f k (rdOf ByteArray.empty x247003 x8)).bind fun t263 => (if t263 = true then (r03_Split.l1 k (wrap64 (x8 + 1)) x247000 x247001 x247002 x247003) else (some ((⟨#[]⟩ : ByteArray), (⟨#[]⟩ : ByteArray), (⟨#[]⟩ : ByteArray), ([] : List ByteArray), false)))) else (none)) else (some (x247000, x247001, x247002, x247003, true))
end
def r03_Split.f (k : Nat) (a0 : ByteArray) : Option (ByteArray × ByteArray × ByteArray × List ByteArray × Bool) := if (a0.size : Int) = 0 then (r03_Split.j0 k a0 true (⟨#[]⟩ : ByteArray) (⟨#[]⟩ : ByteArray) (⟨#[]⟩ : ByteArray)) else (if 0 < (a0.size : Int) then (r03_Split.j0 k a0 ((bt a0 0) != 118) (⟨#[]⟩ : ByteArray) (⟨#[]⟩ : ByteArray) (⟨#[]⟩ : ByteArray)) else (none))
theorem r03_Split.mono_l : ∀ k, (∀ y0 y1 y2 y3 y4, LeO (r03_Split.j0 k y0 y1 y2 y3 y4) (r03_Split.j0 (k + 1) y0 y1 y2 y3 y4)) ∧ (∀ y0 y1 y2 y3 y4 y5, LeO (r03_Split.l0 k y0 y1 y2 y3 y4 y5) (r03_Split.l0 (k + 1) y0 y1 y2 y3 y4 y5)) ∧ (∀ y0 y1 y2 y3 y4 y5 y6, LeO (r03_Split.j2 k y0 y1 y2 y3 y4 y5 y6) (r03_Split.j2 (k + 1) y0 y1 y2 y3 y4 y5 y6)) ∧ (∀ y0 y1 y2 y3 y4, LeO (r03_Split.l1 k y0 y1 y2 y3 y4) (r03_Split.l1 (k + 1) y0 y1 y2 y3 y4))
 | 0 => ⟨fun _ _ _ _ _ r h => by simp [r03_Split.j0] at h, fun _ _ _ _ _ _ r h => by simp [r03_Split.l0] at h, fun _ _ _ _ _ _ _ r h => by simp [r03_Split.j2] at h, fun _ _ _ _ _ r h => by simp [r03_Split.l1] at h⟩
 | k + 1 => by
  obtain ⟨ih0, ih1, ih2, ih3⟩ := r03_Split.mono_l k
  refine ⟨?_, ?_, ?_, ?_⟩
  ·intro y0 y1 y2 y3 y4
   unfold r03_Split.j0
   repeat' first
   | (with_reducible exact ih0 _ _ _ _ _)
   | (with_reducible exact ih1 _ _ _ _ _ _)
   | (with_reducible exact ih2 _ _ _ _ _ _ _)
   | (with_reducible exact ih3 _ _ _ _ _)
   | (with_reducible exact r01_Parts.mono _ _ _)
   | (with_reducible exact r02_May.mono _ _)
   | (with_reducible exact r03_Word.mono _ _)
   | (with_reducible exact LeO.refl _)
   | (with_reducible exact LeO.none _)
   | (with_reducible refine LeO.ite ?_ ?_)
   | (with_reducible refine LeO.bind ?_ (fun _ => ?_))
   | exact ih0 _ _ _ _ _
   | exact ih1 _ _ _ _ _ _
   | exact ih2 _ _ _ _ _ _ _
   | exact ih3 _ _ _ _ _
   | exact r01_Parts.mono _ _ _
   | exact r02_May.mono _ _
   | exact r03_Word.mono _ _
   | exact LeO.none _
   | refine LeO.ite ?_ ?_
   | refine LeO.bind ?_ (fun _ => ?_)
  ·intro y0 y1 y2 y3 y4 y5
   unfold r03_Split.l0
   repeat' first
   | (with_reducible exact ih0 _ _ _ _ _)
   | (with_reducible exact ih1 _ _ _ _ _ _)
   | (with_reducible exact ih2 _ _ _ _ _ _ _)
   | (with_reducible exact ih3 _ _ _ _ _)
   | (with_reducible exact r01_Parts.mono _ _ _)
   | (with_reducible exact r02_May.mono _ _)
   | (with_reducible exact r03_Word.mono _ _)
   | (with_reducible exact LeO.refl _)
   | (with_reducible exact LeO.none _)
   | (with_reducible refine LeO.ite ?_ ?_)
   | (with_reducible refine LeO.bind ?_ (fun _ => ?_))
   | exact ih0 _ _ _ _ _
   | exact ih1 _ _ _ _ _ _
   | exact ih2 _ _ _ _ _ _ _
   | exact ih3 _ _ _ _ _
   | exact r01_Parts.mono _ _ _
   | exact r02_May.mono _ _
   | exact r03_Word.mono _ _
   | exact LeO.none _
   | refine LeO.ite ?_ ?_
   | refine LeO.bind ?_ (fun _ => ?_)
  ·intro y0 y1 y2 y3 y4 y5 y6
   unfold r03_Split.j2
   repeat' first
   | (with_reducible exact ih0 _ _ _ _ _)
   | (with_reducible exact ih1 _ _ _ _ _ _)
   | (with_reducible exact ih2 _ _ _ _ _ _ _)
   | (with_reducible exact ih3 _ _ _ _ _)
   | (with_reducible exact r01_Parts.mono _ _ _)
   | (with_reducible exact r02_May.mono _ _)
   | (with_reducible exact r03_Word.mono _ _)
   | (with_reducible exact LeO.refl _)
   | (with_reducible exact LeO.none _)
   | (with_reducible refine LeO.ite ?_ ?_)
   | (with_reducible refine LeO.bind ?_ (fun _ => ?_))
   | exact ih0 _ _ _ _ _
   | exact ih1 _ _ _ _ _ _
   | exact ih2 _ _ _ _ _ _ _
   | exact ih3 _ _ _ _ _
   | exact r01_Parts.mono _ _ _
   | exact r02_May.mono _ _
   | exact r03_Word.mono _ _
   | exact LeO.none _
   | refine LeO.ite ?_ ?_
   | refine LeO.bind ?_ (fun _ => ?_)
  ·intro y0 y1 y2 y3 y4
   unfold r03_Split.l1
   repeat' first
   | (with_reducible exact ih0 _ _ _ _ _)
   | (with_reducible exact ih1 _ _ _ _ _ _)
   | (with_reducible exact ih2 _ _ _ _ _ _ _)
   | (with_reducible exact ih3 _ _ _ _ _)
   | (with_reducible exact r01_Parts.mono _ _ _)
   | (with_reducible exact r02_May.mono _ _)
   | (with_reducible exact r03_Word.mono _ _)
   | (with_reducible exact LeO.refl _)
   | (with_reducible exact LeO.none _)
   | (with_reducible refine LeO.ite ?_ ?_)
   | (with_reducible refine LeO.bind ?_ (fun _ => ?_))
   | exact ih0 _ _ _ _ _
   | exact ih1 _ _ _ _ _ _
   | exact ih2 _ _ _ _ _ _ _
   | exact ih3 _ _ _ _ _
   | exact r01_Parts.mono _ _ _
   | exact r02_May.mono _ _
   | exact r03_Word.mono _ _
   | exact LeO.none _
   | refine LeO.ite ?_ ?_
   | refine LeO.bind ?_ (fun _ => ?_)
theorem r03_Split.mono : ∀ a0 k, LeO (r03_Split.f k a0) (r03_Split.f (k + 1) a0) := by
 intro a0 k
 obtain ⟨ih0, ih1, ih2, ih3⟩ := r03_Split.mono_l k
 unfold r03_Split.f
 repeat' first
   | (with_reducible exact ih0 _ _ _ _ _)
   | (with_reducible exact ih1 _ _ _ _ _ _)
   | (with_reducible exact ih2 _ _ _ _ _ _ _)
   | (with_reducible exact ih3 _ _ _ _ _)
   | (with_reducible exact r01_Parts.mono _ _ _)
   | (with_reducible exact r02_May.mono _ _)
   | (with_reducible exact r03_Word.mono _ _)
   | (with_reducible exact LeO.refl _)
   | (with_reducible exact LeO.none _)
   | (with_reducible refine LeO.ite ?_ ?_)
   | (with_reducible refine LeO.bind ?_ (fun _ => ?_))
   | exact ih0 _ _ _ _ _
   | exact ih1 _ _ _ _ _ _
   | exact ih2 _ _ _ _ _ _ _
   | exact ih3 _ _ _ _ _
   | exact r01_Parts.mono _ _ _
   | exact r02_May.mono _ _
   | exact r03_Word.mono _ _
   | exact LeO.none _
   | refine LeO.ite ?_ ?_
   | refine LeO.bind ?_ (fun _ => ?_)
def r03_Split.T13 : Bool × List (List Nat × List Nat) := (true, [([], []), ([0], [0]), ([1], [1]), ([], []), ([3], [3]), ([4], [4]), ([], []), ([6], [6]), ([7], [7]), ([0, 1, 2], []), ([9, 2, 0, 1, 2], [2, 9]), ([0, 1, 2, 3, 4, 5, 9, 10], []), ([11, 5, 10, 0, 1, 2, 3, 4, 5, 9, 10], [5, 11]), ([0, 1, 2, 3, 4, 5, 6, 7, 8, 9, 10, 11, 12], []), ([13, 8, 12, 0, 1, 2, 3, 4, 5, 6, 7, 8, 9, 10, 11, 12], [8, 13])])
def r03_Split.B13 : List Nat := [0, 1, 3, 0, 8, 24, 0, 64, 192, 7, 519, 1599, 3647, 8191, 16383]
theorem r03_Split.tab13 : rtab .any (opsOf Tryz.f116 13) = r03_Split.T13 := by kernel_rfl
theorem r03_Split.bits13 : waitsOk r03_Split.T13.2 r03_Split.B13 = true := by kernel_rfl
set_option maxHeartbeats 8000000 in
set_option maxRecDepth 100000 in
theorem r03_Split.calls (k : Nat) (a0 : ByteArray) (r1 : ByteArray) (r2 : ByteArray) (r3 : ByteArray) (r4 : List ByteArray) (r5 : Bool) (w : World) (h : r03_Split.f k a0 = some (r1, r2, r3, r4, r5)) :
  Calls Tryz.prog 116 #[.string a0] w fun e w' => ∃ v3_ : Value, e = .returned (.tuple #[.agg #[.string r1, .string r2, .string r3, v3_], .bool r5]) ∧ Kd.R Kd.string 9 w' w.heap.size (fun _ => True) v3_ r4 ∧ Below w.heap.size w w' := by
 have hu146 := Tryz.underlying146
 have HB := Aside0.mk (Below.refl w.heap.size w)
 have H : (if (a0.size : Int) = 0 then (r03_Split.j0 k a0 true (⟨#[]⟩ : ByteArray) (⟨#[]⟩ : ByteArray) (⟨#[]⟩ : ByteArray)) else (if 0 < (a0.size : Int) then (r03_Split.j0 k a0 ((bt a0 0) != 118) (⟨#[]⟩ : ByteArray) (⟨#[]⟩ : ByteArray) (⟨#[]⟩ : ByteArray)) else (none))) = some (r1, r2, r3, r4, r5) := h
 clear h
 have HC2 := Aside0.mk H
 clear H
 go_enter Tryz.func116, Tryz.ntmps116
 go_upto_region 2 with (first | ((with_reducible refine gate_dst (N := 2) rfl ?_); refine box_event ?hg (N := 2) ?hd (cs := #[.string (⟨#[]⟩ : ByteArray), .string (⟨#[]⟩ : ByteArray), .string (⟨#[]⟩ : ByteArray), .slice none 0 0]) (t := 146) ?hr ?_; (case hd => rfl); (case hg => rfl); (case hr => first | (go_simp; done) | (go_simp; rfl)); intro gb245 hg w3 hbox hb; have n0_ := bs HB hb; have n1_ := Aside0.mk (hbox); have n2_ := gz hg HB; have n3_ := gz hg HB; revert n0_ n1_ n2_ n3_; clear HB; intro HB BK245 GW245 GE245; clear hb hbox hg) | ((with_reducible refine gate_dst (N := 4) rfl ?_); refine box_event ?hg (N := 4) ?hd (cs := #[.string (⟨#[]⟩ : ByteArray), .string (⟨#[]⟩ : ByteArray), .string (⟨#[]⟩ : ByteArray), .slice none 0 0]) (t := 146) ?hr ?_; (case hd => rfl); (case hg => rfl); (case hr => first | (go_simp; done) | (go_simp; rfl)); intro gb246 hg w4 hbox hb; have n0_ := bb BK245 hb; have n1_ := bs HB hb; have n2_ := Aside0.mk (hbox); have n3_ := gz hg HB; have n4_ := gz hg HB; have n5_ := Aside0.mk ((by rw [hg]; exact Nat.ne_of_lt (blk_lt (g := gb245) (o := .cells #[.string (⟨#[]⟩ : ByteArray), .string (⟨#[]⟩ : ByteArray), .string (⟨#[]⟩ : ByteArray), .slice none 0 0] 146 (0, 0)) (bk BK245)) : gb245 ≠ gb246)); have n6_ := Aside0.mk ((by rw [hg]; exact Nat.ne_of_gt (blk_lt (g := gb245) (o := .cells #[.string (⟨#[]⟩ : ByteArray), .string (⟨#[]⟩ : ByteArray), .string (⟨#[]⟩ : ByteArray), .slice none 0 0] 146 (0, 0)) (bk BK245)) : gb246 ≠ gb245)); revert n0_ n1_ n2_ n3_ n4_ n5_ n6_; clear BK245 HB; intro BK245 HB BK246 GW246 GE246 NB245_246 NB246_245; clear hb hbox hg; have hnb5 := NB246_245.out; have hnc5 := NB245_246.out; have hcz6_0 := bc BK246 0; have hcz6_1 := bc BK246 1; have hcz6_2 := bc BK246 2; have hcz6_3 := bc BK246 3; have hfz6_0 := bf BK246 0; have hfz6_1 := bf BK246 1; have hfz6_2 := bf BK246 2; have hfz6_3 := bf BK246 3))
 (try simp only [Act.put, List.setIfInBounds_toArray, List.set_cons_zero, List.set_cons_succ])
 go_cut [17] (fun v17 wc => ∃ (kq : Nat) (x17_1 : Bool), v17 = .bool x17_1 ∧ Aside0 (r03_Split.j0 kq a0 x17_1 (⟨#[]⟩ : ByteArray) (⟨#[]⟩ : ByteArray) (⟨#[]⟩ : ByteArray) = some (r1, r2, r3, r4, r5)) ∧ Aside0 (kq ≤ k) ∧ Aside0 (wc.heap[gb245]? = some (.cells #[.string (⟨#[]⟩ : ByteArray), .string (⟨#[]⟩ : ByteArray), .string (⟨#[]⟩ : ByteArray), (.slice none 0 0)] 146 (0, 0))) ∧ Aside0 (wc.heap[gb246]? = some (.cells #[.string (⟨#[]⟩ : ByteArray), .string (⟨#[]⟩ : ByteArray), .string (⟨#[]⟩ : ByteArray), (.slice none 0 0)] 146 (0, 0))) ∧ Aside0 (Below w.heap.size w wc))
 case first =>
  have H := HC2.out
  clear HC2
  by_cases c7 : (a0.size : Int) = 0
  ·rw [if_pos c7] at H
   have c7b0 := beq_iff_eq.mpr c7
   have c7b1 := bne_eq_false_iff_eq.mpr c7
   clear c7
   (first | rw [c7b0] | (simp only [i64_w, i32_w]; rw [c7b0]) | skip)
   have H' := Aside0.mk H
   clear H
   go_wp2
   go_meet
   case rel => exact ⟨_, (true), (by first | rfl | (simp; done) | (simp [*]; done)), H', ⟨by first | omega | exact Nat.le_refl _⟩, ⟨by (with_reducible repeat (first | refine blk_drewN ?_ _ | refine blk_drew ?_ | refine blk_alloc ?_ _)); refine blk_far ?_ NB245_246.out _; (with_reducible repeat (first | refine blk_drewN ?_ _ | refine blk_drew ?_ | refine blk_alloc ?_ _)); refine blk_far ?_ NB245_246.out _; (with_reducible repeat (first | refine blk_drewN ?_ _ | refine blk_drew ?_ | refine blk_alloc ?_ _)); refine blk_far ?_ NB245_246.out _; (with_reducible repeat (first | refine blk_drewN ?_ _ | refine blk_drew ?_ | refine blk_alloc ?_ _)); refine blk_far ?_ NB245_246.out _; (with_reducible repeat (first | refine blk_drewN ?_ _ | refine blk_drew ?_ | refine blk_alloc ?_ _)); exact BK245.out⟩, ⟨by (with_reducible repeat (first | refine blk_drewN ?_ _ | refine blk_drew ?_ | refine blk_alloc ?_ _)); refine blk_put (cs := #[.string (⟨#[]⟩ : ByteArray), .string (⟨#[]⟩ : ByteArray), .string (⟨#[]⟩ : ByteArray), .slice none 0 0]) ?_ 3 _ rfl; (with_reducible repeat (first | refine blk_drewN ?_ _ | refine blk_drew ?_ | refine blk_alloc ?_ _)); refine blk_put (cs := #[.string (⟨#[]⟩ : ByteArray), .string (⟨#[]⟩ : ByteArray), .string (⟨#[]⟩ : ByteArray), .slice none 0 0]) ?_ 2 _ rfl; (with_reducible repeat (first | refine blk_drewN ?_ _ | refine blk_drew ?_ | refine blk_alloc ?_ _)); refine blk_put (cs := #[.string (⟨#[]⟩ : ByteArray), .string (⟨#[]⟩ : ByteArray), .string (⟨#[]⟩ : ByteArray), .slice none 0 0]) ?_ 1 _ rfl; (with_reducible repeat (first | refine blk_drewN ?_ _ | refine blk_drew ?_ | refine blk_alloc ?_ _)); refine blk_put (cs := #[.string (⟨#[]⟩ : ByteArray), .string (⟨#[]⟩ : ByteArray), .string (⟨#[]⟩ : ByteArray), .slice none 0 0]) ?_ 0 _ rfl; (with_reducible repeat (first | refine blk_drewN ?_ _ | refine blk_drew ?_ | refine blk_alloc ?_ _)); exact BK246.out⟩, ⟨ba HB⟩⟩
  ·rw [if_neg c7] at H
   have c7b0 := beq_eq_false_iff_ne.mpr c7
   have c7b1 := bne_iff_ne.mpr c7
   (first | rw [c7b0] | (simp only [i64_w, i32_w]; rw [c7b0]) | skip)
   by_cases c8 : 0 < (a0.size : Int)
   ·rw [if_pos c8] at H
    have c8b0 : decide (0 < (a0.size : Int)) = true := decide_eq_true c8
    have c8b1 : decide (0 < a0.size) = true := decide_eq_true (by omega)
    clear c8
    have H' := Aside0.mk H
    clear H
    have p9 : 0 ≤ (0 : Int) := (by omega)
    have q9 : 0 < a0.size := (by have : (0 : Int) < (a0.size : Int) := of_decide_eq_true (by first | (with_reducible assumption) | assumption); omega)
    have hx9 : ∀ h : 0 < a0.size, ((a0[0]'h).toNat : Int) = bt a0 0 := bt_at a0 0
    clear p9
    have qi9 : (0 < (a0.size : Int)) = True := eq_true (of_decide_eq_true (by first | (with_reducible assumption) | assumption))
    replace q9 := eq_true q9
    go_wp2
    go_meet
    case rel => exact ⟨_, (((bt a0 0) != 118)), (by first | rfl | (simp; done) | (simp [*]; done)), H', ⟨by first | omega | exact Nat.le_refl _⟩, ⟨by (with_reducible repeat (first | refine blk_drewN ?_ _ | refine blk_drew ?_ | refine blk_alloc ?_ _)); refine blk_far ?_ NB245_246.out _; (with_reducible repeat (first | refine blk_drewN ?_ _ | refine blk_drew ?_ | refine blk_alloc ?_ _)); refine blk_far ?_ NB245_246.out _; (with_reducible repeat (first | refine blk_drewN ?_ _ | refine blk_drew ?_ | refine blk_alloc ?_ _)); refine blk_far ?_ NB245_246.out _; (with_reducible repeat (first | refine blk_drewN ?_ _ | refine blk_drew ?_ | refine blk_alloc ?_ _)); refine blk_far ?_ NB245_246.out _; (with_reducible repeat (first | refine blk_drewN ?_ _ | refine blk_drew ?_ | refine blk_alloc ?_ _)); exact BK245.out⟩, ⟨by (with_reducible repeat (first | refine blk_drewN ?_ _ | refine blk_drew ?_ | refine blk_alloc ?_ _)); refine blk_put (cs := #[.string (⟨#[]⟩ : ByteArray), .string (⟨#[]⟩ : ByteArray), .string (⟨#[]⟩ : ByteArray), .slice none 0 0]) ?_ 3 _ rfl; (with_reducible repeat (first | refine blk_drewN ?_ _ | refine blk_drew ?_ | refine blk_alloc ?_ _)); refine blk_put (cs := #[.string (⟨#[]⟩ : ByteArray), .string (⟨#[]⟩ : ByteArray), .string (⟨#[]⟩ : ByteArray), .slice none 0 0]) ?_ 2 _ rfl; (with_reducible repeat (first | refine blk_drewN ?_ _ | refine blk_drew ?_ | refine blk_alloc ?_ _)); refine blk_put (cs := #[.string (⟨#[]⟩ : ByteArray), .string (⟨#[]⟩ : ByteArray), .string (⟨#[]⟩ : ByteArray), .slice none 0 0]) ?_ 1 _ rfl; (with_reducible repeat (first | refine blk_drewN ?_ _ | refine blk_drew ?_ | refine blk_alloc ?_ _)); refine blk_put (cs := #[.string (⟨#[]⟩ : ByteArray), .string (⟨#[]⟩ : ByteArray), .string (⟨#[]⟩ : ByteArray), .slice none 0 0]) ?_ 0 _ rfl; (with_reducible repeat (first | refine blk_drewN ?_ _ | refine blk_drew ?_ | refine blk_alloc ?_ _)); exact BK246.out⟩, ⟨ba HB⟩⟩
   ·rw [if_neg c8] at H
    exact absurd H (by simp)
 case rest =>
  clear HC2
  try clear c1
  try clear p2
  try clear c5
  try clear c7
  try clear c7b0
  try clear c7b1
  try clear c8
  try clear c8b0
  try clear c8b1
  try clear p9
  try clear q9
  try clear hx9
  try clear qi9
  try clear hcz6_0
  try clear hcz6_1
  try clear hcz6_2
  try clear hcz6_3
  try clear hfz6_0
  try clear hfz6_1
  try clear hfz6_2
  try clear hfz6_3
  try clear p9
  try clear q9
  obtain ⟨kq, x17_1, rfl, HA, HJ1, BK245, BK246, HB⟩ := hcut
  cases kq with
  | zero => exact absurd HA.out (by simp [r03_Split.j0])
  | succ kj1 =>
   have H := HA.out
   clear HA
   simp only [r03_Split.j0] at H
   by_cases c10 : x17_1 = true
   ·subst c10
    replace H := it H
    simp only [Option.some.injEq, Prod.mk.injEq] at H
    obtain ⟨rfl, rfl, rfl, rfl, rfl⟩ := H
    have hnb11 := NB246_245.out
    have hnc11 := NB245_246.out
    have hcz12_0 := bc BK246 0
    have hcz12_1 := bc BK246 1
    have hcz12_2 := bc BK246 2
    have hcz12_3 := bc BK246 3
    have hfz12_0 := bf BK246 0
    have hfz12_1 := bf BK246 1
    have hfz12_2 := bf BK246 2
    have hfz12_3 := bf BK246 3
    have hcz13_0 := bc BK245 0
    have hcz13_1 := bc BK245 1
    have hcz13_2 := bc BK245 2
    have hcz13_3 := bc BK245 3
    have hfz13_0 := bf BK245 0
    have hfz13_1 := bf BK245 1
    have hfz13_2 := bf BK245 2
    have hfz13_3 := bf BK245 3
    go_wp2
    refine bodyPost_ret (results_ct rfl _ _ gb245 146 #[.string (⟨#[]⟩ : ByteArray), .string (⟨#[]⟩ : ByteArray), .string (⟨#[]⟩ : ByteArray), .slice none 0 0] (0, 0) _ rfl (by (with_reducible repeat (first | refine blk_drewN ?_ _ | refine blk_drew ?_ | refine blk_alloc ?_ _)); refine blk_put (cs := #[.string (⟨#[]⟩ : ByteArray), .string (⟨#[]⟩ : ByteArray), .string (⟨#[]⟩ : ByteArray), .slice none 0 0]) ?_ 3 _ rfl; (with_reducible repeat (first | refine blk_drewN ?_ _ | refine blk_drew ?_ | refine blk_alloc ?_ _)); refine blk_put (cs := #[.string (⟨#[]⟩ : ByteArray), .string (⟨#[]⟩ : ByteArray), .string (⟨#[]⟩ : ByteArray), .slice none 0 0]) ?_ 2 _ rfl; (with_reducible repeat (first | refine blk_drewN ?_ _ | refine blk_drew ?_ | refine blk_alloc ?_ _)); refine blk_put (cs := #[.string (⟨#[]⟩ : ByteArray), .string (⟨#[]⟩ : ByteArray), .string (⟨#[]⟩ : ByteArray), .slice none 0 0]) ?_ 1 _ rfl; (with_reducible repeat (first | refine blk_drewN ?_ _ | refine blk_drew ?_ | refine blk_alloc ?_ _)); refine blk_put (cs := #[.string (⟨#[]⟩ : ByteArray), .string (⟨#[]⟩ : ByteArray), .string (⟨#[]⟩ : ByteArray), .slice none 0 0]) ?_ 0 _ rfl; (with_reducible repeat (first | refine blk_drewN ?_ _ | refine blk_drew ?_ | refine blk_alloc ?_ _)); exact BK245.out) Tryz.underlying146 rfl (by kernel_rfl)) rfl ?_
    exact ⟨_, by first | rfl | (simp [errW_none, errW_some] <;> rfl) | (simp [*, errW_none, errW_some] <;> rfl), by first | exact Kd.R_nil _ _ _ _ _ | exact Kd.N_nil _ _ _ _ _ | exact Kd.V_nil _ _ _ _ _ | exact Kd.Q_nil _ _ _ _ _ | exact Kd.S_nil _ _ _ _ _, ba HB⟩
   ·replace c10 := Bool.eq_false_iff.mpr c10
    subst c10
    replace H := jf H
    have H' := Aside0.mk H
    clear H
    go_wp2
    go_loopg [5, 6] kj1 (fun kq v5 v6 w' => ∃ (x5_2 : Int) (x6_2 : Int), v5 = .int .i64 x5_2 ∧ v6 = .int .i64 x6_2 ∧ Aside0 (r03_Split.l0 kq a0 x5_2 x6_2 (⟨#[]⟩ : ByteArray) (⟨#[]⟩ : ByteArray) (⟨#[]⟩ : ByteArray) = some (r1, r2, r3, r4, r5)) ∧ Aside0 (kq ≤ kj1) ∧ Aside0 (w'.heap[gb245]? = some (.cells #[.string (⟨#[]⟩ : ByteArray), .string (⟨#[]⟩ : ByteArray), .string (⟨#[]⟩ : ByteArray), (.slice none 0 0)] 146 (0, 0))) ∧ Aside0 (w'.heap[gb246]? = some (.cells #[.string (⟨#[]⟩ : ByteArray), .string (⟨#[]⟩ : ByteArray), .string (⟨#[]⟩ : ByteArray), (.slice none 0 0)] 146 (0, 0))) ∧ Aside0 (Below w.heap.size w w'))
    case atStart => exact ⟨((a0.size : Int)), (wrap64 ((a0.size : Int) - 1)), (by first | rfl | (simp; done) | (simp [*]; done)), (by first | rfl | (simp; done) | (simp [*]; done)), H', ⟨Nat.le_refl _⟩, ⟨by (with_reducible repeat (first | refine blk_drewN ?_ _ | refine blk_drew ?_ | refine blk_alloc ?_ _)); exact BK245.out⟩, ⟨by (with_reducible repeat (first | refine blk_drewN ?_ _ | refine blk_drew ?_ | refine blk_alloc ?_ _)); exact BK246.out⟩, ⟨ba HB⟩⟩
    case round =>
     clear H'
     try clear c1
     try clear p2
     try clear c5
     try clear p6
     try clear c7
     try clear c7b0
     try clear c7b1
     try clear c8
     try clear c8b0
     try clear c8b1
     try clear p9
     try clear q9
     try clear hx9
     try clear qi9
     try clear c10
     try clear c11
     try clear hcz12_0
     try clear hcz12_1
     try clear hcz12_2
     try clear hcz12_3
     try clear hcz13_0
     try clear hcz13_1
     try clear hcz13_2
     try clear hcz13_3
     try clear hcz6_0
     try clear hcz6_1
     try clear hcz6_2
     try clear hcz6_3
     try clear hfz12_0
     try clear hfz12_1
     try clear hfz12_2
     try clear hfz12_3
     try clear hfz13_0
     try clear hfz13_1
     try clear hfz13_2
     try clear hfz13_3
     try clear hfz6_0
     try clear hfz6_1
     try clear hfz6_2
     try clear hfz6_3
     try clear p2
     try clear p9
     try clear q9
     obtain ⟨x5_2, x6_2, rfl, rfl, HA, HK2, BK245, BK246, HB⟩ := hrel
     cases gk with
     | zero => exact absurd HA.out (by simp [r03_Split.l0])
     | succ k2 =>
      have H := HA.out
      clear HA
      simp only [r03_Split.l0] at H
      by_cases c14 : x6_2 ≥ 0
      ·rw [if_pos c14] at H
       have c14b0 : decide (0 ≤ x6_2) = true := decide_eq_true c14
       clear c14
       by_cases c15 : 0 ≤ x6_2
       ·rw [if_pos c15] at H
        have c15b0 : decide (0 ≤ x6_2) = true := decide_eq_true c15
        clear c15
        by_cases c16 : x6_2 < (a0.size : Int)
        ·rw [if_pos c16] at H
         have c16b0 : decide (x6_2 < (a0.size : Int)) = true := decide_eq_true c16
         clear c16
         by_cases c18 : (bt a0 x6_2) = 45
         ·rw [if_pos c18] at H
          have c18b0 := beq_iff_eq.mpr c18
          have c18b1 := bne_eq_false_iff_eq.mpr c18
          clear c18
          have H' := Aside0.mk H
          clear H
          have p17 : 0 ≤ (x6_2 : Int) := of_decide_eq_true (by first | (with_reducible assumption) | assumption)
          have q17 : x6_2 < (a0.size : Int) := of_decide_eq_true (by first | (with_reducible assumption) | assumption)
          have hx17 := bt_at a0 x6_2
          replace p17 := eq_true p17
          replace q17 := eq_true q17
          go_wp2
          go_roundg k2
          case measure => have := HJ1.out; have := HK2.out; omega
          case rel => exact ⟨(x6_2), (wrap64 (x6_2 - 1)), (by first | rfl | (simp; done) | (simp [*]; done)), (by first | rfl | (simp; done) | (simp [*]; done)), H', ⟨by have := HJ1.out; have := HK2.out; omega⟩, ⟨by (with_reducible repeat (first | refine blk_drewN ?_ _ | refine blk_drew ?_ | refine blk_alloc ?_ _)); exact BK245.out⟩, ⟨by (with_reducible repeat (first | refine blk_drewN ?_ _ | refine blk_drew ?_ | refine blk_alloc ?_ _)); exact BK246.out⟩, ⟨ba HB⟩⟩
         ·rw [if_neg c18] at H
          have c18b0 := beq_eq_false_iff_ne.mpr c18
          have c18b1 := bne_iff_ne.mpr c18
          have H' := Aside0.mk H
          clear H
          have p17 : 0 ≤ (x6_2 : Int) := of_decide_eq_true (by first | (with_reducible assumption) | assumption)
          have q17 : x6_2 < (a0.size : Int) := of_decide_eq_true (by first | (with_reducible assumption) | assumption)
          have hx17 := bt_at a0 x6_2
          replace p17 := eq_true p17
          replace q17 := eq_true q17
          go_wp2
          go_roundg k2
          case measure => have := HJ1.out; have := HK2.out; omega
          case rel => exact ⟨(x5_2), (wrap64 (x6_2 - 1)), (by first | rfl | (simp; done) | (simp [*]; done)), (by first | rfl | (simp; done) | (simp [*]; done)), H', ⟨by have := HJ1.out; have := HK2.out; omega⟩, ⟨by (with_reducible repeat (first | refine blk_drewN ?_ _ | refine blk_drew ?_ | refine blk_alloc ?_ _)); exact BK245.out⟩, ⟨by (with_reducible repeat (first | refine blk_drewN ?_ _ | refine blk_drew ?_ | refine blk_alloc ?_ _)); exact BK246.out⟩, ⟨ba HB⟩⟩
        ·rw [if_neg c16] at H
         exact absurd H (by simp)
       ·rw [if_neg c15] at H
        exact absurd H (by simp)
      ·rw [if_neg c14] at H
       have c14b0 : decide (0 ≤ x6_2) = false := decide_eq_false c14
       clear c14
       by_cases c19 : 1 ≤ x5_2
       ·rw [if_pos c19] at H
        have c19b0 := eq_true c19
        have c19b1 : decide (1 ≤ x5_2) = true := decide_eq_true c19
        clear c19
        by_cases c20 : x5_2 ≤ (a0.size : Int)
        ·rw [if_pos c20] at H
         have c20b0 := eq_true c20
         have c20b1 : decide (x5_2 ≤ (a0.size : Int)) = true := decide_eq_true c20
         clear c20
         obtain ⟨t247, A21, H⟩ := bo H
         have HC22 := Aside0.mk H
         clear H
         go_upto_region 11 with (first | ((with_reducible refine gate_callee (f := 97) rfl ?_); refine gl 36 Tryz.func97 #[.string (a0.extract 1 (x5_2 : Int).toNat), .int .u8 46] ?_; (with_reducible refine (r01_Parts.calls k2 (a0.extract 1 (x5_2 : Int).toNat) 46 t247 _ A21.out).mono ?_); rintro e w23 ⟨v248, rfl, ho0, hb⟩; refine ⟨_, rfl, ?_⟩; have n0_ := Aside0.mk (Kd.R_lower ho0 (bz HB)); have n1_ := bb BK245 hb; have n2_ := bb BK246 hb; have n3_ := bs HB hb; revert n0_ n1_ n2_ n3_; clear BK245 BK246 HB; intro HO249 BK245 BK246 HB; (try clear hb); (try clear ho0)))
         (try simp only [Act.put, List.setIfInBounds_toArray, List.set_cons_zero, List.set_cons_succ])
         go_cut [60] (fun v60 wc => ∃ (kq : Nat) (x60_21 : Bool), v60 = .bool x60_21 ∧ Aside0 (r03_Split.j2 kq a0 x5_2 t247 x60_21 (⟨#[]⟩ : ByteArray) (⟨#[]⟩ : ByteArray) (⟨#[]⟩ : ByteArray) = some (r1, r2, r3, r4, r5)) ∧ Aside0 (kq ≤ k2) ∧ Aside0 (Kd.R Kd.string 9 wc w.heap.size (fun _ => True) v248 t247) ∧ Aside0 (wc.heap[gb245]? = some (.cells #[.string (⟨#[]⟩ : ByteArray), .string (⟨#[]⟩ : ByteArray), .string (⟨#[]⟩ : ByteArray), (.slice none 0 0)] 146 (0, 0))) ∧ Aside0 (wc.heap[gb246]? = some (.cells #[.string (⟨#[]⟩ : ByteArray), .string (⟨#[]⟩ : ByteArray), .string (⟨#[]⟩ : ByteArray), (.slice none 0 0)] 146 (0, 0))) ∧ Aside0 (Below w.heap.size w wc))
         case first =>
          have H := HC22.out
          clear HC22
          by_cases c24 : (t247.length : Int) = 3
          ·rw [if_pos c24] at H
           have c24b0 := beq_iff_eq.mpr c24
           have c24b1 := bne_eq_false_iff_eq.mpr c24
           clear c24
           (first | rw [c24b0] | (simp only [i64_w, i32_w]; rw [c24b0]) | skip)
           by_cases c25 : 0 < (t247.length : Int)
           ·rw [if_pos c25] at H
            have c25b0 : decide (0 < (t247.length : Int)) = true := decide_eq_true c25
            have c25b1 : decide (0 < t247.length) = true := decide_eq_true (by omega)
            clear c25
            obtain ⟨t251, A26, H⟩ := bo H
            by_cases c27 : t251 = true
            ·subst c27
             replace H := it H
             by_cases c28 : 1 < (t247.length : Int)
             ·rw [if_pos c28] at H
              have c28b0 : decide (1 < (t247.length : Int)) = true := decide_eq_true c28
              have c28b1 : decide (1 < t247.length) = true := decide_eq_true (by omega)
              clear c28
              obtain ⟨t253, A29, H⟩ := bo H
              by_cases c30 : t253 = true
              ·subst c30
               replace H := it H
               by_cases c31 : 2 < (t247.length : Int)
               ·rw [if_pos c31] at H
                have c31b0 : decide (2 < (t247.length : Int)) = true := decide_eq_true c31
                have c31b1 : decide (2 < t247.length) = true := decide_eq_true (by omega)
                clear c31
                obtain ⟨t255, A32, H⟩ := bo H
                have H' := Aside0.mk H
                clear H
                obtain ⟨Ao33, co33, eo33⟩ := Kd.R_slice HO249.out
                subst eo33
                have p250 : 0 ≤ (0 : Int) := (by omega)
                have q250 : 0 < (t247.length : Int) := of_decide_eq_true (by first | (with_reducible assumption) | assumption)
                obtain ⟨ad250, e250, hx250_0⟩ := Kd.at_string (Kd.R_reads' HO249.out).2.2 0 p250 q250
                cases e250
                have qi250 : (0 < t247.length) = True := eq_true (by omega)
                (try rw [show ((0 : Int)).toNat = 0 from rfl] at hx250_0)
                (try rw [Addr.add_zero'] at hx250_0)
                replace p250 := eq_true p250
                replace q250 := eq_true q250
                go_wp2_with (first | (go_at_call 151; (with_reducible refine (r02_May.calls k2 (rdOf ByteArray.empty t247 0) true _ A26.out).mono ?_); rintro e w' ⟨rfl, ⟨nd, rfl⟩⟩; have p252 : 0 ≤ (1 : Int) := (by omega); have q252 : 1 < (t247.length : Int) := of_decide_eq_true (by first | (with_reducible assumption) | assumption); obtain ⟨ad252, e252, hx252_0⟩ := Kd.at_string (Kd.R_reads' HO249.out).2.2 1 p252 q252; obtain rfl : ad250 = ad252 := (by injection e252); (try simp only [show (1 : Int).toNat = 1 from rfl, Nat.reduceMul, Nat.reduceEqDiff, Go.Addr.add, ↓reduceIte] at hx252_0); have qi252 : (1 < t247.length) = True := eq_true (by omega); (try rw [show ((1 : Int)).toNat = 1 from rfl] at hx252_0); replace p252 := eq_true p252; replace q252 := eq_true q252) | (go_at_call 151; (with_reducible refine (r02_May.calls k2 (rdOf ByteArray.empty t247 1) true _ A29.out).mono ?_); rintro e w' ⟨rfl, ⟨nd, rfl⟩⟩; have p254 : 0 ≤ (2 : Int) := (by omega); have q254 : 2 < (t247.length : Int) := of_decide_eq_true (by first | (with_reducible assumption) | assumption); obtain ⟨ad254, e254, hx254_0⟩ := Kd.at_string (Kd.R_reads' HO249.out).2.2 2 p254 q254; obtain rfl : ad250 = ad254 := (by injection e254); (try simp only [show (2 : Int).toNat = 2 from rfl, Nat.reduceMul, Nat.reduceEqDiff, Go.Addr.add, ↓reduceIte] at hx254_0); have qi254 : (2 < t247.length) = True := eq_true (by omega); (try rw [show ((2 : Int)).toNat = 2 from rfl] at hx254_0); replace p254 := eq_true p254; replace q254 := eq_true q254) | (go_at_call 151; (with_reducible refine (r02_May.calls k2 (rdOf ByteArray.empty t247 2) t255 _ A32.out).mono ?_); rintro e w' ⟨rfl, ⟨nd, rfl⟩⟩))
                go_meet
                case rel => exact ⟨_, (!t255), (by first | rfl | (simp; done) | (simp [*]; done)), H', ⟨by have := HJ1.out; have := HK2.out; first | omega | exact Nat.le_refl _⟩, ⟨ra HO249⟩, ⟨by (with_reducible repeat (first | refine blk_drewN ?_ _ | refine blk_drew ?_ | refine blk_alloc ?_ _)); exact BK245.out⟩, ⟨by (with_reducible repeat (first | refine blk_drewN ?_ _ | refine blk_drew ?_ | refine blk_alloc ?_ _)); exact BK246.out⟩, ⟨ba HB⟩⟩
               ·rw [if_neg c31] at H
                exact absurd H (by simp)
              ·replace c30 := Bool.eq_false_iff.mpr c30
               subst c30
               replace H := jf H
               have H' := Aside0.mk H
               clear H
               obtain ⟨Ao34, co34, eo34⟩ := Kd.R_slice HO249.out
               subst eo34
               have p250 : 0 ≤ (0 : Int) := (by omega)
               have q250 : 0 < (t247.length : Int) := of_decide_eq_true (by first | (with_reducible assumption) | assumption)
               obtain ⟨ad250, e250, hx250_0⟩ := Kd.at_string (Kd.R_reads' HO249.out).2.2 0 p250 q250
               cases e250
               have qi250 : (0 < t247.length) = True := eq_true (by omega)
               (try rw [show ((0 : Int)).toNat = 0 from rfl] at hx250_0)
               (try rw [Addr.add_zero'] at hx250_0)
               replace p250 := eq_true p250
               replace q250 := eq_true q250
               go_wp2_with (first | (go_at_call 151; (with_reducible refine (r02_May.calls k2 (rdOf ByteArray.empty t247 0) true _ A26.out).mono ?_); rintro e w' ⟨rfl, ⟨nd, rfl⟩⟩; have p252 : 0 ≤ (1 : Int) := (by omega); have q252 : 1 < (t247.length : Int) := of_decide_eq_true (by first | (with_reducible assumption) | assumption); obtain ⟨ad252, e252, hx252_0⟩ := Kd.at_string (Kd.R_reads' HO249.out).2.2 1 p252 q252; obtain rfl : ad250 = ad252 := (by injection e252); (try simp only [show (1 : Int).toNat = 1 from rfl, Nat.reduceMul, Nat.reduceEqDiff, Go.Addr.add, ↓reduceIte] at hx252_0); have qi252 : (1 < t247.length) = True := eq_true (by omega); (try rw [show ((1 : Int)).toNat = 1 from rfl] at hx252_0); replace p252 := eq_true p252; replace q252 := eq_true q252) | (go_at_call 151; (with_reducible refine (r02_May.calls k2 (rdOf ByteArray.empty t247 1) false _ A29.out).mono ?_); rintro e w' ⟨rfl, ⟨nd, rfl⟩⟩))
               go_meet
               case rel => exact ⟨_, (true), (by first | rfl | (simp; done) | (simp [*]; done)), H', ⟨by have := HJ1.out; have := HK2.out; first | omega | exact Nat.le_refl _⟩, ⟨ra HO249⟩, ⟨by (with_reducible repeat (first | refine blk_drewN ?_ _ | refine blk_drew ?_ | refine blk_alloc ?_ _)); exact BK245.out⟩, ⟨by (with_reducible repeat (first | refine blk_drewN ?_ _ | refine blk_drew ?_ | refine blk_alloc ?_ _)); exact BK246.out⟩, ⟨ba HB⟩⟩
             ·rw [if_neg c28] at H
              exact absurd H (by simp)
            ·replace c27 := Bool.eq_false_iff.mpr c27
             subst c27
             replace H := jf H
             have H' := Aside0.mk H
             clear H
             obtain ⟨Ao35, co35, eo35⟩ := Kd.R_slice HO249.out
             subst eo35
             have p250 : 0 ≤ (0 : Int) := (by omega)
             have q250 : 0 < (t247.length : Int) := of_decide_eq_true (by first | (with_reducible assumption) | assumption)
             obtain ⟨ad250, e250, hx250_0⟩ := Kd.at_string (Kd.R_reads' HO249.out).2.2 0 p250 q250
             cases e250
             have qi250 : (0 < t247.length) = True := eq_true (by omega)
             (try rw [show ((0 : Int)).toNat = 0 from rfl] at hx250_0)
             (try rw [Addr.add_zero'] at hx250_0)
             replace p250 := eq_true p250
             replace q250 := eq_true q250
             go_wp2_with (first | (go_at_call 151; (with_reducible refine (r02_May.calls k2 (rdOf ByteArray.empty t247 0) false _ A26.out).mono ?_); rintro e w' ⟨rfl, ⟨nd, rfl⟩⟩))
             go_meet
             case rel => exact ⟨_, (true), (by first | rfl | (simp; done) | (simp [*]; done)), H', ⟨by have := HJ1.out; have := HK2.out; first | omega | exact Nat.le_refl _⟩, ⟨ra HO249⟩, ⟨by (with_reducible repeat (first | refine blk_drewN ?_ _ | refine blk_drew ?_ | refine blk_alloc ?_ _)); exact BK245.out⟩, ⟨by (with_reducible repeat (first | refine blk_drewN ?_ _ | refine blk_drew ?_ | refine blk_alloc ?_ _)); exact BK246.out⟩, ⟨ba HB⟩⟩
           ·rw [if_neg c25] at H
            exact absurd H (by simp)
          ·rw [if_neg c24] at H
           have c24b0 := beq_eq_false_iff_ne.mpr c24
           have c24b1 := bne_iff_ne.mpr c24
           (first | rw [c24b0] | (simp only [i64_w, i32_w]; rw [c24b0]) | skip)
           have H' := Aside0.mk H
           clear H
           obtain ⟨Ao36, co36, eo36⟩ := Kd.R_slice HO249.out
           subst eo36
           go_wp2
           go_meet
           case rel => exact ⟨_, (true), (by first | rfl | (simp; done) | (simp [*]; done)), H', ⟨by have := HJ1.out; have := HK2.out; first | omega | exact Nat.le_refl _⟩, ⟨ra HO249⟩, ⟨by (with_reducible repeat (first | refine blk_drewN ?_ _ | refine blk_drew ?_ | refine blk_alloc ?_ _)); exact BK245.out⟩, ⟨by (with_reducible repeat (first | refine blk_drewN ?_ _ | refine blk_drew ?_ | refine blk_alloc ?_ _)); exact BK246.out⟩, ⟨ba HB⟩⟩
         case rest =>
          clear HC22
          try clear c1
          try clear p1
          try clear q1
          try clear hx1
          try clear c2
          try clear p2
          try clear q2
          try clear hx2
          try clear qi2
          try clear c3
          try clear c5
          try clear p6
          try clear c7
          try clear c7b0
          try clear c7b1
          try clear c8
          try clear c8b0
          try clear c8b1
          try clear c9
          try clear p9
          try clear q9
          try clear hx9
          try clear qi9
          try clear c10
          try clear c11
          try clear c14
          try clear c14b0
          try clear c15
          try clear c15b0
          try clear c16
          try clear c16b0
          try clear p17
          try clear q17
          try clear hx17
          try clear c18
          try clear c18b0
          try clear c18b1
          try clear c19
          try clear c19b0
          try clear c19b1
          try clear c20
          try clear c20b0
          try clear c20b1
          try clear c24
          try clear c24b0
          try clear c24b1
          try clear c25
          try clear c25b0
          try clear c25b1
          try clear p25
          try clear q25
          try clear hx25
          try clear qi25
          try clear c27
          try clear c28
          try clear c28b0
          try clear c28b1
          try clear c30
          try clear c31
          try clear c31b0
          try clear c31b1
          try clear hcz12_0
          try clear hcz12_1
          try clear hcz12_2
          try clear hcz12_3
          try clear hcz13_0
          try clear hcz13_1
          try clear hcz13_2
          try clear hcz13_3
          try clear hcz6_0
          try clear hcz6_1
          try clear hcz6_2
          try clear hcz6_3
          try clear hfz12_0
          try clear hfz12_1
          try clear hfz12_2
          try clear hfz12_3
          try clear hfz13_0
          try clear hfz13_1
          try clear hfz13_2
          try clear hfz13_3
          try clear hfz6_0
          try clear hfz6_1
          try clear hfz6_2
          try clear hfz6_3
          try clear hx250_0
          try clear hx252_0
          try clear hx254_0
          try clear p17
          try clear p2
          try clear p250
          try clear p252
          try clear p254
          try clear p6
          try clear p9
          try clear q17
          try clear q250
          try clear q252
          try clear q254
          try clear q9
          obtain ⟨kq, x60_21, rfl, HA, HJ21, HO_7, BK245, BK246, HB⟩ := hcut
          cases kq with
          | zero => exact absurd HA.out (by simp [r03_Split.j2])
          | succ kj21 =>
           have H := HA.out
           clear HA
           simp only [r03_Split.j2] at H
           by_cases c37 : x60_21 = true
           ·subst c37
            replace H := it H
            simp only [Option.some.injEq, Prod.mk.injEq] at H
            obtain ⟨rfl, rfl, rfl, rfl, rfl⟩ := H
            have hnb38 := NB246_245.out
            have hnc38 := NB245_246.out
            have hcz39_0 := bc BK246 0
            have hcz39_1 := bc BK246 1
            have hcz39_2 := bc BK246 2
            have hcz39_3 := bc BK246 3
            have hfz39_0 := bf BK246 0
            have hfz39_1 := bf BK246 1
            have hfz39_2 := bf BK246 2
            have hfz39_3 := bf BK246 3
            have hcz40_0 := bc BK245 0
            have hcz40_1 := bc BK245 1
            have hcz40_2 := bc BK245 2
            have hcz40_3 := bc BK245 3
            have hfz40_0 := bf BK245 0
            have hfz40_1 := bf BK245 1
            have hfz40_2 := bf BK245 2
            have hfz40_3 := bf BK245 3
            go_wp2
            refine bodyPost_ret (results_ct rfl _ _ gb245 146 #[.string (⟨#[]⟩ : ByteArray), .string (⟨#[]⟩ : ByteArray), .string (⟨#[]⟩ : ByteArray), .slice none 0 0] (0, 0) _ rfl (by (with_reducible repeat (first | refine blk_drewN ?_ _ | refine blk_drew ?_ | refine blk_alloc ?_ _)); refine blk_put (cs := #[.string (⟨#[]⟩ : ByteArray), .string (⟨#[]⟩ : ByteArray), .string (⟨#[]⟩ : ByteArray), .slice none 0 0]) ?_ 3 _ rfl; (with_reducible repeat (first | refine blk_drewN ?_ _ | refine blk_drew ?_ | refine blk_alloc ?_ _)); refine blk_put (cs := #[.string (⟨#[]⟩ : ByteArray), .string (⟨#[]⟩ : ByteArray), .string (⟨#[]⟩ : ByteArray), .slice none 0 0]) ?_ 2 _ rfl; (with_reducible repeat (first | refine blk_drewN ?_ _ | refine blk_drew ?_ | refine blk_alloc ?_ _)); refine blk_put (cs := #[.string (⟨#[]⟩ : ByteArray), .string (⟨#[]⟩ : ByteArray), .string (⟨#[]⟩ : ByteArray), .slice none 0 0]) ?_ 1 _ rfl; (with_reducible repeat (first | refine blk_drewN ?_ _ | refine blk_drew ?_ | refine blk_alloc ?_ _)); refine blk_put (cs := #[.string (⟨#[]⟩ : ByteArray), .string (⟨#[]⟩ : ByteArray), .string (⟨#[]⟩ : ByteArray), .slice none 0 0]) ?_ 0 _ rfl; (with_reducible repeat (first | refine blk_drewN ?_ _ | refine blk_drew ?_ | refine blk_alloc ?_ _)); exact BK245.out) Tryz.underlying146 rfl (by kernel_rfl)) rfl ?_
            exact ⟨_, by first | rfl | (simp [errW_none, errW_some] <;> rfl) | (simp [*, errW_none, errW_some] <;> rfl), by first | exact Kd.R_nil _ _ _ _ _ | exact Kd.N_nil _ _ _ _ _ | exact Kd.V_nil _ _ _ _ _ | exact Kd.Q_nil _ _ _ _ _ | exact Kd.S_nil _ _ _ _ _, ba HB⟩
           ·replace c37 := Bool.eq_false_iff.mpr c37
            subst c37
            replace H := jf H
            by_cases c41 : 0 < (t247.length : Int)
            ·rw [if_pos c41] at H
             have c41b0 : decide (0 < (t247.length : Int)) = true := decide_eq_true c41
             have c41b1 : decide (0 < t247.length) = true := decide_eq_true (by omega)
             clear c41
             by_cases c42 : 1 < (t247.length : Int)
             ·rw [if_pos c42] at H
              have c42b0 : decide (1 < (t247.length : Int)) = true := decide_eq_true c42
              have c42b1 : decide (1 < t247.length) = true := decide_eq_true (by omega)
              clear c42
              by_cases c43 : 2 < (t247.length : Int)
              ·rw [if_pos c43] at H
               have c43b0 : decide (2 < (t247.length : Int)) = true := decide_eq_true c43
               have c43b1 : decide (2 < t247.length) = true := decide_eq_true (by omega)
               clear c43
               by_cases c44 : x5_2 = (a0.size : Int)
               ·rw [if_pos c44] at H
                have c44b0 := beq_iff_eq.mpr c44
                have c44b1 := bne_eq_false_iff_eq.mpr c44
                clear c44
                simp only [Option.some.injEq, Prod.mk.injEq] at H
                obtain ⟨rfl, rfl, rfl, rfl, rfl⟩ := H
                try go_wp2
                have n0_ := Aside0.mk (Kd.R_drew HO_7.out)
                have n1_ := Aside0.mk (blk_drew BK245.out)
                have n2_ := Aside0.mk (blk_drew BK246.out)
                have n3_ := Aside0.mk (below_drew1 HB.out)
                revert n0_ n1_ n2_ n3_
                clear HO_7 BK245 BK246 HB
                intro HO_7 BK245 BK246 HB
                obtain ⟨Ao46, co46, eo46⟩ := Kd.R_slice HO_7.out
                (first | subst eo46 | (injection eo46 with f1_ f2_ f3_; have f4_ := f1_.symm; have f5_ := f3_.symm; clear f1_ f2_ f3_; subst f4_; subst f5_))
                have p256 : 0 ≤ (0 : Int) := (by omega)
                have q256 : 0 < (t247.length : Int) := of_decide_eq_true (by first | (with_reducible assumption) | assumption)
                obtain ⟨ad256, e256, hx256_0⟩ := Kd.at_string (Kd.R_reads' HO_7.out).2.2 0 p256 q256
                cases e256
                have qi256 : (0 < t247.length) = True := eq_true (by omega)
                (try rw [show ((0 : Int)).toNat = 0 from rfl] at hx256_0)
                (try rw [Addr.add_zero'] at hx256_0)
                replace p256 := eq_true p256
                replace q256 := eq_true q256
                have p257 : 0 ≤ (1 : Int) := (by omega)
                have q257 : 1 < (t247.length : Int) := of_decide_eq_true (by first | (with_reducible assumption) | assumption)
                obtain ⟨ad257, e257, hx257_0⟩ := Kd.at_string (Kd.R_reads' HO_7.out).2.2 1 p257 q257
                obtain rfl : ad256 = ad257 := (by injection e257)
                (try simp only [show (1 : Int).toNat = 1 from rfl, Nat.reduceMul, Nat.reduceEqDiff, Go.Addr.add, ↓reduceIte] at hx257_0)
                have qi257 : (1 < t247.length) = True := eq_true (by omega)
                (try rw [show ((1 : Int)).toNat = 1 from rfl] at hx257_0)
                replace p257 := eq_true p257
                replace q257 := eq_true q257
                have p258 : 0 ≤ (2 : Int) := (by omega)
                have q258 : 2 < (t247.length : Int) := of_decide_eq_true (by first | (with_reducible assumption) | assumption)
                obtain ⟨ad258, e258, hx258_0⟩ := Kd.at_string (Kd.R_reads' HO_7.out).2.2 2 p258 q258
                obtain rfl : ad256 = ad258 := (by injection e258)
                (try simp only [show (2 : Int).toNat = 2 from rfl, Nat.reduceMul, Nat.reduceEqDiff, Go.Addr.add, ↓reduceIte] at hx258_0)
                have qi258 : (2 < t247.length) = True := eq_true (by omega)
                (try rw [show ((2 : Int)).toNat = 2 from rfl] at hx258_0)
                replace p258 := eq_true p258
                replace q258 := eq_true q258
                refine start_ (n := 15) (S := fun w' => w'.cell? ad256 = some (.string (rdOf ByteArray.empty t247 0)) ∧ w'.cell? ⟨ad256.block, ad256.off + 1, none⟩ = some (.string (rdOf ByteArray.empty t247 1)) ∧ w'.cell? ⟨ad256.block, ad256.off + 2, none⟩ = some (.string (rdOf ByteArray.empty t247 2))) (ds := []) #[false, false, false, false, false, false, false, false, false, false, false, false, false, false, false] (by kernel_rfl) rfl rfl ⟨hx256_0, hx257_0, hx258_0⟩ (fun hHeld => ?_); refine with_tabW r03_Split.tab13 r03_Split.bits13 (fun HT_ HW_ => ?_)
                generalize wc.drew = w45 at HO_7 BK245 BK246 HB hx256_0 hx257_0 hx258_0 hHeld ⊢
                refine pu 0 62 ?_
                refine pu 1 63 ?_
                refine pu 3 65 ?_
                refine pu 4 66 ?_
                refine pu 6 68 ?_
                refine pu 7 69 ?_
                refine tk 2 64 ?_
                refine pu 9 71 ?_
                refine tk 5 67 ?_
                refine tk 8 70 ?_
                refine oq 10 none fun K hK => ?_
                have hs47 := bc BK246 0
                have hfs47 := bf BK246 0
                have hns47_0 := NB245_246.out
                have hms47_0 := NB246_245.out
                refine sk ?_
                refine hK.out _ _ ⟨((cell_far (p := ⟨gb246, _, none⟩) (by first | exact Kd.own_blk (Kd.R_ne HO_7.out BK246.out (by decide)) | (rw [add_block]; exact Kd.own_blk (Kd.R_ne HO_7.out BK246.out (by decide))) | (show (Addr.add _ _).block ≠ _; rw [add_block]; exact Kd.own_blk (Kd.R_ne HO_7.out BK246.out (by decide))) | (dsimp only; exact Kd.own_blk (Kd.R_ne HO_7.out BK246.out (by decide)))) _).trans (hHeld.1)), ((cell_far (p := ⟨gb246, _, none⟩) (by first | exact Kd.own_blk (Kd.R_ne HO_7.out BK246.out (by decide)) | (rw [add_block]; exact Kd.own_blk (Kd.R_ne HO_7.out BK246.out (by decide))) | (show (Addr.add _ _).block ≠ _; rw [add_block]; exact Kd.own_blk (Kd.R_ne HO_7.out BK246.out (by decide))) | (dsimp only; exact Kd.own_blk (Kd.R_ne HO_7.out BK246.out (by decide)))) _).trans (hHeld.2.1)), ((cell_far (p := ⟨gb246, _, none⟩) (by first | exact Kd.own_blk (Kd.R_ne HO_7.out BK246.out (by decide)) | (rw [add_block]; exact Kd.own_blk (Kd.R_ne HO_7.out BK246.out (by decide))) | (show (Addr.add _ _).block ≠ _; rw [add_block]; exact Kd.own_blk (Kd.R_ne HO_7.out BK246.out (by decide))) | (dsimp only; exact Kd.own_blk (Kd.R_ne HO_7.out BK246.out (by decide)))) _).trans (hHeld.2.2))⟩ (fun hHeld => ?_)
                clear hK K
                refine pu 11 72 ?_
                refine oq 12 none fun K hK => ?_
                have hs48 := bc BK246 1
                have hfs48 := bf BK246 1
                have hns48_0 := NB245_246.out
                have hms48_0 := NB246_245.out
                refine sk ?_
                refine hK.out _ _ ⟨((cell_far (p := ⟨gb246, _, none⟩) (by first | exact Kd.own_blk (Kd.R_ne HO_7.out BK246.out (by decide)) | (rw [add_block]; exact Kd.own_blk (Kd.R_ne HO_7.out BK246.out (by decide))) | (show (Addr.add _ _).block ≠ _; rw [add_block]; exact Kd.own_blk (Kd.R_ne HO_7.out BK246.out (by decide))) | (dsimp only; exact Kd.own_blk (Kd.R_ne HO_7.out BK246.out (by decide)))) _).trans (hHeld.1)), ((cell_far (p := ⟨gb246, _, none⟩) (by first | exact Kd.own_blk (Kd.R_ne HO_7.out BK246.out (by decide)) | (rw [add_block]; exact Kd.own_blk (Kd.R_ne HO_7.out BK246.out (by decide))) | (show (Addr.add _ _).block ≠ _; rw [add_block]; exact Kd.own_blk (Kd.R_ne HO_7.out BK246.out (by decide))) | (dsimp only; exact Kd.own_blk (Kd.R_ne HO_7.out BK246.out (by decide)))) _).trans (hHeld.2.1)), ((cell_far (p := ⟨gb246, _, none⟩) (by first | exact Kd.own_blk (Kd.R_ne HO_7.out BK246.out (by decide)) | (rw [add_block]; exact Kd.own_blk (Kd.R_ne HO_7.out BK246.out (by decide))) | (show (Addr.add _ _).block ≠ _; rw [add_block]; exact Kd.own_blk (Kd.R_ne HO_7.out BK246.out (by decide))) | (dsimp only; exact Kd.own_blk (Kd.R_ne HO_7.out BK246.out (by decide)))) _).trans (hHeld.2.2))⟩ (fun hHeld => ?_)
                clear hK K
                refine pu 13 73 ?_
                refine oq 14 none fun K hK => ?_
                have hs49 := bc BK246 2
                have hfs49 := bf BK246 2
                have hns49_0 := NB245_246.out
                have hms49_0 := NB246_245.out
                refine sk ?_
                refine hK.out _ _ ⟨((cell_far (p := ⟨gb246, _, none⟩) (by first | exact Kd.own_blk (Kd.R_ne HO_7.out BK246.out (by decide)) | (rw [add_block]; exact Kd.own_blk (Kd.R_ne HO_7.out BK246.out (by decide))) | (show (Addr.add _ _).block ≠ _; rw [add_block]; exact Kd.own_blk (Kd.R_ne HO_7.out BK246.out (by decide))) | (dsimp only; exact Kd.own_blk (Kd.R_ne HO_7.out BK246.out (by decide)))) _).trans (hHeld.1)), ((cell_far (p := ⟨gb246, _, none⟩) (by first | exact Kd.own_blk (Kd.R_ne HO_7.out BK246.out (by decide)) | (rw [add_block]; exact Kd.own_blk (Kd.R_ne HO_7.out BK246.out (by decide))) | (show (Addr.add _ _).block ≠ _; rw [add_block]; exact Kd.own_blk (Kd.R_ne HO_7.out BK246.out (by decide))) | (dsimp only; exact Kd.own_blk (Kd.R_ne HO_7.out BK246.out (by decide)))) _).trans (hHeld.2.1)), ((cell_far (p := ⟨gb246, _, none⟩) (by first | exact Kd.own_blk (Kd.R_ne HO_7.out BK246.out (by decide)) | (rw [add_block]; exact Kd.own_blk (Kd.R_ne HO_7.out BK246.out (by decide))) | (show (Addr.add _ _).block ≠ _; rw [add_block]; exact Kd.own_blk (Kd.R_ne HO_7.out BK246.out (by decide))) | (dsimp only; exact Kd.own_blk (Kd.R_ne HO_7.out BK246.out (by decide)))) _).trans (hHeld.2.2))⟩ (fun hHeld => ?_)
                clear hK K
                refine dq ?_
                have hnb50 := NB246_245.out
                have hnc50 := NB245_246.out
                have hcz51_0 := bc BK246 0
                have hcz51_1 := bc BK246 1
                have hcz51_2 := bc BK246 2
                have hcz51_3 := bc BK246 3
                have hfz51_0 := bf BK246 0
                have hfz51_1 := bf BK246 1
                have hfz51_2 := bf BK246 2
                have hfz51_3 := bf BK246 3
                have hcz52_0 := bc BK245 0
                have hcz52_1 := bc BK245 1
                have hcz52_2 := bc BK245 2
                have hcz52_3 := bc BK245 3
                have hfz52_0 := bf BK245 0
                have hfz52_1 := bf BK245 1
                have hfz52_2 := bf BK245 2
                have hfz52_3 := bf BK245 3
                try go_wp2
                refine bodyPost_ret (results_ct rfl _ _ gb245 146 #[.string (rdOf ByteArray.empty t247 0), .string (rdOf ByteArray.empty t247 1), .string (rdOf ByteArray.empty t247 2), .slice none 0 0] (0, 0) _ rfl (by (with_reducible repeat (first | refine blk_drewN ?_ _ | refine blk_drew ?_ | refine blk_alloc ?_ _)); refine blk_put (cs := #[.string (rdOf ByteArray.empty t247 0), .string (rdOf ByteArray.empty t247 1), .string (rdOf ByteArray.empty t247 2), .slice none 0 0]) ?_ 3 _ rfl; (with_reducible repeat (first | refine blk_drewN ?_ _ | refine blk_drew ?_ | refine blk_alloc ?_ _)); refine blk_put (cs := #[.string (rdOf ByteArray.empty t247 0), .string (rdOf ByteArray.empty t247 1), .string (⟨#[]⟩ : ByteArray), .slice none 0 0]) ?_ 2 _ rfl; (with_reducible repeat (first | refine blk_drewN ?_ _ | refine blk_drew ?_ | refine blk_alloc ?_ _)); refine blk_put (cs := #[.string (rdOf ByteArray.empty t247 0), .string (⟨#[]⟩ : ByteArray), .string (⟨#[]⟩ : ByteArray), .slice none 0 0]) ?_ 1 _ rfl; (with_reducible repeat (first | refine blk_drewN ?_ _ | refine blk_drew ?_ | refine blk_alloc ?_ _)); refine blk_put (cs := #[.string (⟨#[]⟩ : ByteArray), .string (⟨#[]⟩ : ByteArray), .string (⟨#[]⟩ : ByteArray), .slice none 0 0]) ?_ 0 _ rfl; (with_reducible repeat (first | refine blk_drewN ?_ _ | refine blk_drew ?_ | refine blk_alloc ?_ _)); refine blk_far ?_ NB245_246.out _; (with_reducible repeat (first | refine blk_drewN ?_ _ | refine blk_drew ?_ | refine blk_alloc ?_ _)); refine blk_far ?_ NB245_246.out _; (with_reducible repeat (first | refine blk_drewN ?_ _ | refine blk_drew ?_ | refine blk_alloc ?_ _)); refine blk_far ?_ NB245_246.out _; (with_reducible repeat (first | refine blk_drewN ?_ _ | refine blk_drew ?_ | refine blk_alloc ?_ _)); exact BK245.out) Tryz.underlying146 rfl (by kernel_rfl)) rfl ?_
                exact ⟨_, by first | rfl | (simp [errW_none, errW_some] <;> rfl) | (simp [*, errW_none, errW_some] <;> rfl), by first | exact Kd.R_nil _ _ _ _ _ | exact Kd.N_nil _ _ _ _ _ | exact Kd.V_nil _ _ _ _ _ | exact Kd.Q_nil _ _ _ _ _ | exact Kd.S_nil _ _ _ _ _, ba HB⟩
               ·rw [if_neg c44] at H
                have c44b0 := beq_eq_false_iff_ne.mpr c44
                have c44b1 := bne_iff_ne.mpr c44
                obtain ⟨ji53, hji53⟩ : ∃ j_ : Int, (wrap64 (x5_2 + 1)) = j_ := ⟨_, rfl⟩
                replace H : (if 0 ≤ (ji53) then (if (ji53) ≤ (a0.size : Int) then ((r01_Parts.f kj21 (a0.extract ((ji53) : Int).toNat a0.size) 46).bind fun t259 => (r03_Split.l1 kj21 0 (rdOf ByteArray.empty t247 0) (rdOf ByteArray.empty t247 1) (rdOf ByteArray.empty t247 2) t259)) else (none)) else (none)) = some (r1, r2, r3, r4, r5) := by first | (rw [hji53] at H; exact H) | (simp only [hji53] at H ⊢; exact H)
                have hji53w : (IntKind.i64.wrap (x5_2 + 1)) = ji53 := (i64_w _).trans hji53
                by_cases c54 : 0 ≤ (ji53)
                ·rw [if_pos c54] at H
                 have c54b0 := eq_true c54
                 have c54b1 : decide (0 ≤ (ji53)) = true := decide_eq_true c54
                 clear c54
                 by_cases c55 : (ji53) ≤ (a0.size : Int)
                 ·rw [if_pos c55] at H
                  have c55b0 := eq_true c55
                  have c55b1 : decide ((ji53) ≤ (a0.size : Int)) = true := decide_eq_true c55
                  clear c55
                  obtain ⟨t259, A56, H⟩ := bo H
                  have H' := Aside0.mk H
                  clear H
                  try go_wp2
                  have n0_ := Aside0.mk (Kd.R_drew HO_7.out)
                  have n1_ := Aside0.mk (blk_drew BK245.out)
                  have n2_ := Aside0.mk (blk_drew BK246.out)
                  have n3_ := Aside0.mk (below_drew1 HB.out)
                  revert n0_ n1_ n2_ n3_
                  clear HO_7 BK245 BK246 HB
                  intro HO_7 BK245 BK246 HB
                  obtain ⟨Ao58, co58, eo58⟩ := Kd.R_slice HO_7.out
                  (first | subst eo58 | (injection eo58 with f1_ f2_ f3_; have f4_ := f1_.symm; have f5_ := f3_.symm; clear f1_ f2_ f3_; subst f4_; subst f5_))
                  have p256 : 0 ≤ (0 : Int) := (by omega)
                  have q256 : 0 < (t247.length : Int) := of_decide_eq_true (by first | (with_reducible assumption) | assumption)
                  obtain ⟨ad256, e256, hx256_0⟩ := Kd.at_string (Kd.R_reads' HO_7.out).2.2 0 p256 q256
                  cases e256
                  have qi256 : (0 < t247.length) = True := eq_true (by omega)
                  (try rw [show ((0 : Int)).toNat = 0 from rfl] at hx256_0)
                  (try rw [Addr.add_zero'] at hx256_0)
                  replace p256 := eq_true p256
                  replace q256 := eq_true q256
                  have p257 : 0 ≤ (1 : Int) := (by omega)
                  have q257 : 1 < (t247.length : Int) := of_decide_eq_true (by first | (with_reducible assumption) | assumption)
                  obtain ⟨ad257, e257, hx257_0⟩ := Kd.at_string (Kd.R_reads' HO_7.out).2.2 1 p257 q257
                  obtain rfl : ad256 = ad257 := (by injection e257)
                  (try simp only [show (1 : Int).toNat = 1 from rfl, Nat.reduceMul, Nat.reduceEqDiff, Go.Addr.add, ↓reduceIte] at hx257_0)
                  have qi257 : (1 < t247.length) = True := eq_true (by omega)
                  (try rw [show ((1 : Int)).toNat = 1 from rfl] at hx257_0)
                  replace p257 := eq_true p257
                  replace q257 := eq_true q257
                  have p258 : 0 ≤ (2 : Int) := (by omega)
                  have q258 : 2 < (t247.length : Int) := of_decide_eq_true (by first | (with_reducible assumption) | assumption)
                  obtain ⟨ad258, e258, hx258_0⟩ := Kd.at_string (Kd.R_reads' HO_7.out).2.2 2 p258 q258
                  obtain rfl : ad256 = ad258 := (by injection e258)
                  (try simp only [show (2 : Int).toNat = 2 from rfl, Nat.reduceMul, Nat.reduceEqDiff, Go.Addr.add, ↓reduceIte] at hx258_0)
                  have qi258 : (2 < t247.length) = True := eq_true (by omega)
                  (try rw [show ((2 : Int)).toNat = 2 from rfl] at hx258_0)
                  replace p258 := eq_true p258
                  replace q258 := eq_true q258
                  refine start_ (n := 15) (S := fun w' => w'.cell? ad256 = some (.string (rdOf ByteArray.empty t247 0)) ∧ w'.cell? ⟨ad256.block, ad256.off + 1, none⟩ = some (.string (rdOf ByteArray.empty t247 1)) ∧ w'.cell? ⟨ad256.block, ad256.off + 2, none⟩ = some (.string (rdOf ByteArray.empty t247 2))) (ds := []) #[false, false, false, false, false, false, false, false, false, false, false, false, false, false, false] (by kernel_rfl) rfl rfl ⟨hx256_0, hx257_0, hx258_0⟩ (fun hHeld => ?_); refine with_tabW r03_Split.tab13 r03_Split.bits13 (fun HT_ HW_ => ?_)
                  generalize wc.drew = w57 at HO_7 BK245 BK246 HB hx256_0 hx257_0 hx258_0 hHeld ⊢
                  refine pu 0 62 ?_
                  refine pu 1 63 ?_
                  refine pu 3 65 ?_
                  refine pu 4 66 ?_
                  refine pu 6 68 ?_
                  refine pu 7 69 ?_
                  refine tk 2 64 ?_
                  refine pu 9 71 ?_
                  refine tk 5 67 ?_
                  refine tk 8 70 ?_
                  refine oq 10 none fun K hK => ?_
                  have hs59 := bc BK246 0
                  have hfs59 := bf BK246 0
                  have hns59_0 := NB245_246.out
                  have hms59_0 := NB246_245.out
                  refine sk ?_
                  refine hK.out _ _ ⟨((cell_far (p := ⟨gb246, _, none⟩) (by first | exact Kd.own_blk (Kd.R_ne HO_7.out BK246.out (by decide)) | (rw [add_block]; exact Kd.own_blk (Kd.R_ne HO_7.out BK246.out (by decide))) | (show (Addr.add _ _).block ≠ _; rw [add_block]; exact Kd.own_blk (Kd.R_ne HO_7.out BK246.out (by decide))) | (dsimp only; exact Kd.own_blk (Kd.R_ne HO_7.out BK246.out (by decide)))) _).trans (hHeld.1)), ((cell_far (p := ⟨gb246, _, none⟩) (by first | exact Kd.own_blk (Kd.R_ne HO_7.out BK246.out (by decide)) | (rw [add_block]; exact Kd.own_blk (Kd.R_ne HO_7.out BK246.out (by decide))) | (show (Addr.add _ _).block ≠ _; rw [add_block]; exact Kd.own_blk (Kd.R_ne HO_7.out BK246.out (by decide))) | (dsimp only; exact Kd.own_blk (Kd.R_ne HO_7.out BK246.out (by decide)))) _).trans (hHeld.2.1)), ((cell_far (p := ⟨gb246, _, none⟩) (by first | exact Kd.own_blk (Kd.R_ne HO_7.out BK246.out (by decide)) | (rw [add_block]; exact Kd.own_blk (Kd.R_ne HO_7.out BK246.out (by decide))) | (show (Addr.add _ _).block ≠ _; rw [add_block]; exact Kd.own_blk (Kd.R_ne HO_7.out BK246.out (by decide))) | (dsimp only; exact Kd.own_blk (Kd.R_ne HO_7.out BK246.out (by decide)))) _).trans (hHeld.2.2))⟩ (fun hHeld => ?_)
                  clear hK K
                  refine pu 11 72 ?_
                  refine oq 12 none fun K hK => ?_
                  have hs60 := bc BK246 1
                  have hfs60 := bf BK246 1
                  have hns60_0 := NB245_246.out
                  have hms60_0 := NB246_245.out
                  refine sk ?_
                  refine hK.out _ _ ⟨((cell_far (p := ⟨gb246, _, none⟩) (by first | exact Kd.own_blk (Kd.R_ne HO_7.out BK246.out (by decide)) | (rw [add_block]; exact Kd.own_blk (Kd.R_ne HO_7.out BK246.out (by decide))) | (show (Addr.add _ _).block ≠ _; rw [add_block]; exact Kd.own_blk (Kd.R_ne HO_7.out BK246.out (by decide))) | (dsimp only; exact Kd.own_blk (Kd.R_ne HO_7.out BK246.out (by decide)))) _).trans (hHeld.1)), ((cell_far (p := ⟨gb246, _, none⟩) (by first | exact Kd.own_blk (Kd.R_ne HO_7.out BK246.out (by decide)) | (rw [add_block]; exact Kd.own_blk (Kd.R_ne HO_7.out BK246.out (by decide))) | (show (Addr.add _ _).block ≠ _; rw [add_block]; exact Kd.own_blk (Kd.R_ne HO_7.out BK246.out (by decide))) | (dsimp only; exact Kd.own_blk (Kd.R_ne HO_7.out BK246.out (by decide)))) _).trans (hHeld.2.1)), ((cell_far (p := ⟨gb246, _, none⟩) (by first | exact Kd.own_blk (Kd.R_ne HO_7.out BK246.out (by decide)) | (rw [add_block]; exact Kd.own_blk (Kd.R_ne HO_7.out BK246.out (by decide))) | (show (Addr.add _ _).block ≠ _; rw [add_block]; exact Kd.own_blk (Kd.R_ne HO_7.out BK246.out (by decide))) | (dsimp only; exact Kd.own_blk (Kd.R_ne HO_7.out BK246.out (by decide)))) _).trans (hHeld.2.2))⟩ (fun hHeld => ?_)
                  clear hK K
                  refine pu 13 73 ?_
                  refine oq 14 none fun K hK => ?_
                  have hs61 := bc BK246 2
                  have hfs61 := bf BK246 2
                  have hns61_0 := NB245_246.out
                  have hms61_0 := NB246_245.out
                  refine sk ?_
                  refine hK.out _ _ ⟨((cell_far (p := ⟨gb246, _, none⟩) (by first | exact Kd.own_blk (Kd.R_ne HO_7.out BK246.out (by decide)) | (rw [add_block]; exact Kd.own_blk (Kd.R_ne HO_7.out BK246.out (by decide))) | (show (Addr.add _ _).block ≠ _; rw [add_block]; exact Kd.own_blk (Kd.R_ne HO_7.out BK246.out (by decide))) | (dsimp only; exact Kd.own_blk (Kd.R_ne HO_7.out BK246.out (by decide)))) _).trans (hHeld.1)), ((cell_far (p := ⟨gb246, _, none⟩) (by first | exact Kd.own_blk (Kd.R_ne HO_7.out BK246.out (by decide)) | (rw [add_block]; exact Kd.own_blk (Kd.R_ne HO_7.out BK246.out (by decide))) | (show (Addr.add _ _).block ≠ _; rw [add_block]; exact Kd.own_blk (Kd.R_ne HO_7.out BK246.out (by decide))) | (dsimp only; exact Kd.own_blk (Kd.R_ne HO_7.out BK246.out (by decide)))) _).trans (hHeld.2.1)), ((cell_far (p := ⟨gb246, _, none⟩) (by first | exact Kd.own_blk (Kd.R_ne HO_7.out BK246.out (by decide)) | (rw [add_block]; exact Kd.own_blk (Kd.R_ne HO_7.out BK246.out (by decide))) | (show (Addr.add _ _).block ≠ _; rw [add_block]; exact Kd.own_blk (Kd.R_ne HO_7.out BK246.out (by decide))) | (dsimp only; exact Kd.own_blk (Kd.R_ne HO_7.out BK246.out (by decide)))) _).trans (hHeld.2.2))⟩ (fun hHeld => ?_)
                  clear hK K
                  refine dq ?_
                  try go_wp2_with (first | ((with_reducible refine gate_callee (f := 97) rfl ?_); refine goesL_ (some 83) rfl rfl Tryz.func97 (by kernel_rfl) rfl #[.string (a0.extract ((ji53) : Int).toNat a0.size), .int .u8 46] rfl (by (try simp only [List.map_toArray, List.map_cons, List.map_nil]); first | done | (simp only [hji53]; rfl) | rfl | (simp only [List.length_drop, List.length_take]; rfl)) ?_; (with_reducible refine (r01_Parts.calls kj21 (a0.extract ((ji53) : Int).toNat a0.size) 46 t259 _ A56.out).mono ?_); rintro e w62 ⟨v260, rfl, ho0, hb⟩; refine ⟨_, rfl, ?_⟩; have n0_ := Aside0.mk (Kd.R_elder' (by (with_reducible repeat (first | apply Kd.R_alloc | apply Kd.R_drewN | apply Kd.R_drew)); exact (Kd.R_mono (Kd.R_far (p := ⟨gb246, 2, none⟩) (Kd.R_far (p := ⟨gb246, 1, none⟩) (Kd.R_far (p := ⟨gb246, 0, none⟩) (Kd.R_types HO_7.out BK246.out (by decide)) (fun _ hk => hk.2) (.string (rdOf ByteArray.empty t247 0))) (fun _ hk => hk.2) (.string (rdOf ByteArray.empty t247 1))) (fun _ hk => hk.2) (.string (rdOf ByteArray.empty t247 2))) (fun _ h_ => h_.1))) (Kd.R_base ho0) hb); have n1_ := Aside0.mk (Kd.R_lower (Kd.R_new' ho0 (Kd.R_lt (by (with_reducible repeat (first | apply Kd.R_alloc | apply Kd.R_drewN | apply Kd.R_drew)); exact (Kd.R_mono (Kd.R_far (p := ⟨gb246, 2, none⟩) (Kd.R_far (p := ⟨gb246, 1, none⟩) (Kd.R_far (p := ⟨gb246, 0, none⟩) (Kd.R_types HO_7.out BK246.out (by decide)) (fun _ hk => hk.2) (.string (rdOf ByteArray.empty t247 0))) (fun _ hk => hk.2) (.string (rdOf ByteArray.empty t247 1))) (fun _ hk => hk.2) (.string (rdOf ByteArray.empty t247 2))) (fun _ h_ => h_.1))))) (bz HB)); have n2_ := Aside0.mk (blk_below (g := gb245) (o := .cells #[.string (⟨#[]⟩ : ByteArray), .string (⟨#[]⟩ : ByteArray), .string (⟨#[]⟩ : ByteArray), .slice none 0 0] 146 (0, 0)) (by (with_reducible repeat (first | refine blk_drewN ?_ _ | refine blk_drew ?_ | refine blk_alloc ?_ _)); refine blk_far ?_ NB245_246.out _; (with_reducible repeat (first | refine blk_drewN ?_ _ | refine blk_drew ?_ | refine blk_alloc ?_ _)); refine blk_far ?_ NB245_246.out _; (with_reducible repeat (first | refine blk_drewN ?_ _ | refine blk_drew ?_ | refine blk_alloc ?_ _)); refine blk_far ?_ NB245_246.out _; (with_reducible repeat (first | refine blk_drewN ?_ _ | refine blk_drew ?_ | refine blk_alloc ?_ _)); exact BK245.out) hb); have n3_ := Aside0.mk (blk_below (g := gb246) (o := .cells #[.string (rdOf ByteArray.empty t247 0), .string (rdOf ByteArray.empty t247 1), .string (rdOf ByteArray.empty t247 2), .slice none 0 0] 146 (0, 0)) (by (with_reducible repeat (first | refine blk_drewN ?_ _ | refine blk_drew ?_ | refine blk_alloc ?_ _)); refine blk_put (cs := #[.string (rdOf ByteArray.empty t247 0), .string (rdOf ByteArray.empty t247 1), .string (⟨#[]⟩ : ByteArray), .slice none 0 0]) ?_ 2 _ rfl; (with_reducible repeat (first | refine blk_drewN ?_ _ | refine blk_drew ?_ | refine blk_alloc ?_ _)); refine blk_put (cs := #[.string (rdOf ByteArray.empty t247 0), .string (⟨#[]⟩ : ByteArray), .string (⟨#[]⟩ : ByteArray), .slice none 0 0]) ?_ 1 _ rfl; (with_reducible repeat (first | refine blk_drewN ?_ _ | refine blk_drew ?_ | refine blk_alloc ?_ _)); refine blk_put (cs := #[.string (⟨#[]⟩ : ByteArray), .string (⟨#[]⟩ : ByteArray), .string (⟨#[]⟩ : ByteArray), .slice none 0 0]) ?_ 0 _ rfl; (with_reducible repeat (first | refine blk_drewN ?_ _ | refine blk_drew ?_ | refine blk_alloc ?_ _)); exact BK246.out) hb); have n4_ := bs HB hb; revert n0_ n1_ n2_ n3_ n4_; clear HO_7 BK245 BK246 HB; intro HO_7 HO261 BK245 BK246 HB; (try clear hb); (try clear ho0); obtain ⟨Ao63, co63, eo63⟩ := Kd.R_slice HO261.out; subst eo63; have hnb64 := NB246_245.out; have hnc64 := NB245_246.out; have hcz65_0 := bc BK246 0; have hcz65_1 := bc BK246 1; have hcz65_2 := bc BK246 2; have hcz65_3 := bc BK246 3; have hfz65_0 := bf BK246 0; have hfz65_1 := bf BK246 1; have hfz65_2 := bf BK246 2; have hfz65_3 := bf BK246 3))
                  go_loopg [8] kj21 (fun kq v8 w' => ∃ (x8_4 : Int) (x246000_4 : ByteArray) (x246001_4 : ByteArray) (x246002_4 : ByteArray), v8 = .int .i64 x8_4 ∧ Aside0 (r03_Split.l1 kq x8_4 (rdOf ByteArray.empty t247 0) (rdOf ByteArray.empty t247 1) (rdOf ByteArray.empty t247 2) t259 = some (r1, r2, r3, r4, r5)) ∧ Aside0 (kq ≤ kj21) ∧ Aside0 (Kd.R Kd.string 9 w' w.heap.size (fun _ => True) (.slice Ao63 t259.length co63) t259) ∧ Aside0 (w'.heap[gb245]? = some (.cells #[.string x246000_4, .string x246001_4, .string x246002_4, (.slice none 0 0)] 146 (0, 0))) ∧ Aside0 (w'.heap[gb246]? = some (.cells #[.string (rdOf ByteArray.empty t247 0), .string (rdOf ByteArray.empty t247 1), .string (rdOf ByteArray.empty t247 2), (.slice Ao63 t259.length co63)] 146 (0, 0))) ∧ Aside0 (Below w.heap.size w w'))
                  case atStart => exact ⟨(0), ((⟨#[]⟩ : ByteArray)), ((⟨#[]⟩ : ByteArray)), ((⟨#[]⟩ : ByteArray)), (by first | rfl | (simp; done) | (simp [*]; done)), H', ⟨Nat.le_refl _⟩, ⟨by (with_reducible repeat (first | apply Kd.R_alloc | apply Kd.R_drewN | apply Kd.R_drew)); exact Kd.R_mono (Kd.R_far (p := ⟨gb246, 3, none⟩) (Kd.R_types HO261.out BK246.out (by decide)) (fun _ hk => hk.2) (.slice Ao63 t259.length co63)) (fun _ hk => trivial)⟩, ⟨by (with_reducible repeat (first | refine blk_drewN ?_ _ | refine blk_drew ?_ | refine blk_alloc ?_ _)); refine blk_far ?_ NB245_246.out _; (with_reducible repeat (first | refine blk_drewN ?_ _ | refine blk_drew ?_ | refine blk_alloc ?_ _)); exact BK245.out⟩, ⟨by (with_reducible repeat (first | refine blk_drewN ?_ _ | refine blk_drew ?_ | refine blk_alloc ?_ _)); refine blk_put (cs := #[.string (rdOf ByteArray.empty t247 0), .string (rdOf ByteArray.empty t247 1), .string (rdOf ByteArray.empty t247 2), .slice none 0 0]) ?_ 3 _ rfl; (with_reducible repeat (first | refine blk_drewN ?_ _ | refine blk_drew ?_ | refine blk_alloc ?_ _)); exact BK246.out⟩, ⟨ba HB⟩⟩
                  case round =>
                   clear H'
                   try clear c1
                   try clear p1
                   try clear q1
                   try clear hx1
                   try clear c2
                   try clear p2
                   try clear q2
                   try clear hx2
                   try clear qi2
                   try clear c3
                   try clear c4
                   try clear c5
                   try clear c6
                   try clear p6
                   try clear c7
                   try clear c7b0
                   try clear c7b1
                   try clear c8
                   try clear c8b0
                   try clear c8b1
                   try clear c9
                   try clear p9
                   try clear q9
                   try clear hx9
                   try clear qi9
                   try clear c10
                   try clear c11
                   try clear c14
                   try clear c14b0
                   try clear c15
                   try clear c15b0
                   try clear c16
                   try clear c16b0
                   try clear p17
                   try clear q17
                   try clear hx17
                   try clear c18
                   try clear c18b0
                   try clear c18b1
                   try clear c19
                   try clear c19b0
                   try clear c19b1
                   try clear c20
                   try clear c20b0
                   try clear c20b1
                   try clear c24
                   try clear c24b0
                   try clear c24b1
                   try clear c25
                   try clear c25b0
                   try clear c25b1
                   try clear p25
                   try clear q25
                   try clear hx25
                   try clear qi25
                   try clear c27
                   try clear c28
                   try clear c28b0
                   try clear c28b1
                   try clear c30
                   try clear c31
                   try clear c31b0
                   try clear c31b1
                   try clear c37
                   try clear c38
                   try clear c41
                   try clear c41b0
                   try clear c41b1
                   try clear c42
                   try clear c42b0
                   try clear c42b1
                   try clear c43
                   try clear c43b0
                   try clear c43b1
                   try clear c44
                   try clear c44b0
                   try clear c44b1
                   try clear c50
                   try clear c54
                   try clear c54b0
                   try clear c54b1
                   try clear c55
                   try clear c55b0
                   try clear c55b1
                   try clear c64
                   try clear p64
                   try clear hcz12_0
                   try clear hcz12_1
                   try clear hcz12_2
                   try clear hcz12_3
                   try clear hcz13_0
                   try clear hcz13_1
                   try clear hcz13_2
                   try clear hcz13_3
                   try clear hcz39_0
                   try clear hcz39_1
                   try clear hcz39_2
                   try clear hcz39_3
                   try clear hcz40_0
                   try clear hcz40_1
                   try clear hcz40_2
                   try clear hcz40_3
                   try clear hcz51_0
                   try clear hcz51_1
                   try clear hcz51_2
                   try clear hcz51_3
                   try clear hcz52_0
                   try clear hcz52_1
                   try clear hcz52_2
                   try clear hcz52_3
                   try clear hcz65_0
                   try clear hcz65_1
                   try clear hcz65_2
                   try clear hcz65_3
                   try clear hcz6_0
                   try clear hcz6_1
                   try clear hcz6_2
                   try clear hcz6_3
                   try clear hfz12_0
                   try clear hfz12_1
                   try clear hfz12_2
                   try clear hfz12_3
                   try clear hfz13_0
                   try clear hfz13_1
                   try clear hfz13_2
                   try clear hfz13_3
                   try clear hfz39_0
                   try clear hfz39_1
                   try clear hfz39_2
                   try clear hfz39_3
                   try clear hfz40_0
                   try clear hfz40_1
                   try clear hfz40_2
                   try clear hfz40_3
                   try clear hfz51_0
                   try clear hfz51_1
                   try clear hfz51_2
                   try clear hfz51_3
                   try clear hfz52_0
                   try clear hfz52_1
                   try clear hfz52_2
                   try clear hfz52_3
                   try clear hfz65_0
                   try clear hfz65_1
                   try clear hfz65_2
                   try clear hfz65_3
                   try clear hfz6_0
                   try clear hfz6_1
                   try clear hfz6_2
                   try clear hfz6_3
                   try clear hx250_0
                   try clear hx252_0
                   try clear hx254_0
                   try clear hx256_0
                   try clear hx257_0
                   try clear hx258_0
                   try clear p1
                   try clear p17
                   try clear p2
                   try clear p25
                   try clear p250
                   try clear p252
                   try clear p254
                   try clear p256
                   try clear p257
                   try clear p258
                   try clear p6
                   try clear p9
                   try clear q1
                   try clear q17
                   try clear q2
                   try clear q25
                   try clear q250
                   try clear q252
                   try clear q254
                   try clear q256
                   try clear q257
                   try clear q258
                   try clear q9
                   obtain ⟨x8_4, x246000_4, x246001_4, x246002_4, rfl, HA, HK4, HO_247003, BK245, BK246, HB⟩ := hrel
                   cases gk with
                   | zero => exact absurd HA.out (by simp [r03_Split.l1])
                   | succ k4 =>
                    have H := HA.out
                    clear HA
                    simp only [r03_Split.l1] at H
                    by_cases c66 : x8_4 < (t259.length : Int)
                    ·rw [if_pos c66] at H
                     have c66b0 : decide (x8_4 < (t259.length : Int)) = true := decide_eq_true c66
                     clear c66
                     by_cases c67 : 0 ≤ x8_4
                     ·rw [if_pos c67] at H
                      have c67b0 : decide (0 ≤ x8_4) = true := decide_eq_true c67
                      clear c67
                      obtain ⟨t263, A68, H⟩ := bo H
                      by_cases c69 : t263 = true
                      ·subst c69
                       replace H := it H
                       have H' := Aside0.mk H
                       clear H
                       have hnb70 := NB246_245.out
                       have hnc70 := NB245_246.out
                       have hcz71_0 := bc BK246 0
                       have hcz71_1 := bc BK246 1
                       have hcz71_2 := bc BK246 2
                       have hcz71_3 := bc BK246 3
                       have hfz71_0 := bf BK246 0
                       have hfz71_1 := bf BK246 1
                       have hfz71_2 := bf BK246 2
                       have hfz71_3 := bf BK246 3
                       have p262 : 0 ≤ (x8_4 : Int) := of_decide_eq_true (by first | (with_reducible assumption) | assumption)
                       have q262 : x8_4 < (t259.length : Int) := of_decide_eq_true (by first | (with_reducible assumption) | assumption)
                       obtain ⟨ad262, e262, hx262_0⟩ := Kd.at_string (Kd.R_reads' HO_247003.out).2.2 x8_4 p262 q262
                       cases e262
                       replace p262 := eq_true p262
                       replace q262 := eq_true q262
                       go_wp2_with (first | ((with_reducible refine gate_callee (f := 152) rfl ?_); refine gl 97 Tryz.func152 #[.string (rdOf ByteArray.empty t259 x8_4)] ?_; (with_reducible refine (r03_Word.calls k4 (rdOf ByteArray.empty t259 x8_4) true _ A68.out).mono ?_); rintro e w' ⟨rfl, ⟨nd, rfl⟩⟩; refine ⟨_, rfl, ?_⟩))
                       go_roundg k4
                       case measure => have := HJ1.out; have := HK2.out; have := HJ21.out; have := HK4.out; omega
                       case rel => exact ⟨(wrap64 (x8_4 + 1)), (x246000_4), (x246001_4), (x246002_4), (by first | rfl | (simp; done) | (simp [*]; done)), H', ⟨by have := HJ1.out; have := HK2.out; have := HJ21.out; have := HK4.out; omega⟩, ⟨ra HO_247003⟩, ⟨by (with_reducible repeat (first | refine blk_drewN ?_ _ | refine blk_drew ?_ | refine blk_alloc ?_ _)); exact BK245.out⟩, ⟨by (with_reducible repeat (first | refine blk_drewN ?_ _ | refine blk_drew ?_ | refine blk_alloc ?_ _)); exact BK246.out⟩, ⟨ba HB⟩⟩
                      ·replace c69 := Bool.eq_false_iff.mpr c69
                       subst c69
                       replace H := jf H
                       simp only [Option.some.injEq, Prod.mk.injEq] at H
                       obtain ⟨rfl, rfl, rfl, rfl, rfl⟩ := H
                       have hnb72 := NB246_245.out
                       have hnc72 := NB245_246.out
                       have hcz73_0 := bc BK246 0
                       have hcz73_1 := bc BK246 1
                       have hcz73_2 := bc BK246 2
                       have hcz73_3 := bc BK246 3
                       have hfz73_0 := bf BK246 0
                       have hfz73_1 := bf BK246 1
                       have hfz73_2 := bf BK246 2
                       have hfz73_3 := bf BK246 3
                       have p262 : 0 ≤ (x8_4 : Int) := of_decide_eq_true (by first | (with_reducible assumption) | assumption)
                       have q262 : x8_4 < (t259.length : Int) := of_decide_eq_true (by first | (with_reducible assumption) | assumption)
                       obtain ⟨ad262, e262, hx262_0⟩ := Kd.at_string (Kd.R_reads' HO_247003.out).2.2 x8_4 p262 q262
                       cases e262
                       replace p262 := eq_true p262
                       replace q262 := eq_true q262
                       go_wp2_with (first | ((with_reducible refine gate_callee (f := 152) rfl ?_); refine gl 97 Tryz.func152 #[.string (rdOf ByteArray.empty t259 x8_4)] ?_; (with_reducible refine (r03_Word.calls k4 (rdOf ByteArray.empty t259 x8_4) false _ A68.out).mono ?_); rintro e w' ⟨rfl, ⟨nd, rfl⟩⟩; refine ⟨_, rfl, ?_⟩; (try (rw [drewN_self wr]; generalize hq_ : World.drewN wr _ = wr; have n0_ : Aside0 (Kd.R Kd.string 9 wr w.heap.size (fun _ => True) (.slice (some ad262) t259.length co63) t259) := ⟨by rw [← hq_]; exact (ra HO_247003)⟩; have n1_ : Aside0 (wr.heap[gb245]? = some (.cells #[.string x246000_4, .string x246001_4, .string x246002_4, .slice none 0 0] 146 (0, 0))) := ⟨by rw [← hq_]; exact (bk BK245)⟩; have n2_ : Aside0 (wr.heap[gb246]? = some (.cells #[.string (rdOf ByteArray.empty t247 0), .string (rdOf ByteArray.empty t247 1), .string (rdOf ByteArray.empty t247 2), .slice (some ad262) t259.length co63] 146 (0, 0))) := ⟨by rw [← hq_]; exact (bk BK246)⟩; have n3_ : Aside0 (Below w.heap.size w wr) := ⟨by rw [← hq_]; exact (ba HB)⟩; clear HO_247003 BK245 BK246 HB hq_; revert n0_ n1_ n2_ n3_; intro HO_247003 BK245 BK246 HB)); have hcz74_0 := bc BK245 0; have hcz74_1 := bc BK245 1; have hcz74_2 := bc BK245 2; have hcz74_3 := bc BK245 3; have hfz74_0 := bf BK245 0; have hfz74_1 := bf BK245 1; have hfz74_2 := bf BK245 2; have hfz74_3 := bf BK245 3))
                       refine bodyPost_ret (results_ct rfl _ _ gb245 146 #[.string (⟨#[]⟩ : ByteArray), .string (⟨#[]⟩ : ByteArray), .string (⟨#[]⟩ : ByteArray), .slice none 0 0] (0, 0) _ rfl (by (with_reducible repeat (first | refine blk_drewN ?_ _ | refine blk_drew ?_ | refine blk_alloc ?_ _)); refine blk_put (cs := #[.string (⟨#[]⟩ : ByteArray), .string (⟨#[]⟩ : ByteArray), .string (⟨#[]⟩ : ByteArray), .slice none 0 0]) ?_ 3 _ rfl; (with_reducible repeat (first | refine blk_drewN ?_ _ | refine blk_drew ?_ | refine blk_alloc ?_ _)); refine blk_put (cs := #[.string (⟨#[]⟩ : ByteArray), .string (⟨#[]⟩ : ByteArray), .string x246002_4, .slice none 0 0]) ?_ 2 _ rfl; (with_reducible repeat (first | refine blk_drewN ?_ _ | refine blk_drew ?_ | refine blk_alloc ?_ _)); refine blk_put (cs := #[.string (⟨#[]⟩ : ByteArray), .string x246001_4, .string x246002_4, .slice none 0 0]) ?_ 1 _ rfl; (with_reducible repeat (first | refine blk_drewN ?_ _ | refine blk_drew ?_ | refine blk_alloc ?_ _)); refine blk_put (cs := #[.string x246000_4, .string x246001_4, .string x246002_4, .slice none 0 0]) ?_ 0 _ rfl; (with_reducible repeat (first | refine blk_drewN ?_ _ | refine blk_drew ?_ | refine blk_alloc ?_ _)); exact BK245.out) Tryz.underlying146 rfl (by kernel_rfl)) rfl ?_
                       exact ⟨_, by first | rfl | (simp [errW_none, errW_some] <;> rfl) | (simp only [← hji53]; first | rfl | (simp [errW_none, errW_some] <;> rfl)) | (simp [*, errW_none, errW_some] <;> rfl), by first | exact Kd.R_nil _ _ _ _ _ | exact Kd.N_nil _ _ _ _ _ | exact Kd.V_nil _ _ _ _ _ | exact Kd.Q_nil _ _ _ _ _ | exact Kd.S_nil _ _ _ _ _, ba HB⟩
                     ·rw [if_neg c67] at H
                      exact absurd H (by simp)
                    ·rw [if_neg c66] at H
                     have c66b0 : decide (x8_4 < (t259.length : Int)) = false := decide_eq_false c66
                     clear c66
                     simp only [Option.some.injEq, Prod.mk.injEq] at H
                     obtain ⟨rfl, rfl, rfl, rfl, rfl⟩ := H
                     have hnb75 := NB246_245.out
                     have hnc75 := NB245_246.out
                     have hcz76_0 := bc BK246 0
                     have hcz76_1 := bc BK246 1
                     have hcz76_2 := bc BK246 2
                     have hcz76_3 := bc BK246 3
                     have hfz76_0 := bf BK246 0
                     have hfz76_1 := bf BK246 1
                     have hfz76_2 := bf BK246 2
                     have hfz76_3 := bf BK246 3
                     have hcz77_0 := bc BK245 0
                     have hcz77_1 := bc BK245 1
                     have hcz77_2 := bc BK245 2
                     have hcz77_3 := bc BK245 3
                     have hfz77_0 := bf BK245 0
                     have hfz77_1 := bf BK245 1
                     have hfz77_2 := bf BK245 2
                     have hfz77_3 := bf BK245 3
                     go_wp2
                     refine bodyPost_ret (results_ct rfl _ _ gb245 146 #[.string (rdOf ByteArray.empty t247 0), .string (rdOf ByteArray.empty t247 1), .string (rdOf ByteArray.empty t247 2), .slice Ao63 t259.length co63] (0, 0) _ rfl (by (with_reducible repeat (first | refine blk_drewN ?_ _ | refine blk_drew ?_ | refine blk_alloc ?_ _)); refine blk_put (cs := #[.string (rdOf ByteArray.empty t247 0), .string (rdOf ByteArray.empty t247 1), .string (rdOf ByteArray.empty t247 2), .slice none 0 0]) ?_ 3 _ rfl; (with_reducible repeat (first | refine blk_drewN ?_ _ | refine blk_drew ?_ | refine blk_alloc ?_ _)); refine blk_put (cs := #[.string (rdOf ByteArray.empty t247 0), .string (rdOf ByteArray.empty t247 1), .string x246002_4, .slice none 0 0]) ?_ 2 _ rfl; (with_reducible repeat (first | refine blk_drewN ?_ _ | refine blk_drew ?_ | refine blk_alloc ?_ _)); refine blk_put (cs := #[.string (rdOf ByteArray.empty t247 0), .string x246001_4, .string x246002_4, .slice none 0 0]) ?_ 1 _ rfl; (with_reducible repeat (first | refine blk_drewN ?_ _ | refine blk_drew ?_ | refine blk_alloc ?_ _)); refine blk_put (cs := #[.string x246000_4, .string x246001_4, .string x246002_4, .slice none 0 0]) ?_ 0 _ rfl; (with_reducible repeat (first | refine blk_drewN ?_ _ | refine blk_drew ?_ | refine blk_alloc ?_ _)); exact BK245.out) Tryz.underlying146 rfl (by kernel_rfl)) rfl ?_
                     exact ⟨_, by first | rfl | (simp [errW_none, errW_some] <;> rfl) | (simp only [← hji53]; first | rfl | (simp [errW_none, errW_some] <;> rfl)) | (simp [*, errW_none, errW_some] <;> rfl), by (with_reducible repeat (first | apply Kd.R_alloc | apply Kd.R_drewN | apply Kd.R_drew)); exact Kd.R_mono (Kd.R_far (p := ⟨gb245, 3, none⟩) (Kd.R_far (p := ⟨gb245, 2, none⟩) (Kd.R_far (p := ⟨gb245, 1, none⟩) (Kd.R_far (p := ⟨gb245, 0, none⟩) (Kd.R_types HO_247003.out BK245.out (by decide)) (fun _ hk => hk.2) (.string (rdOf ByteArray.empty t247 0))) (fun _ hk => hk.2) (.string (rdOf ByteArray.empty t247 1))) (fun _ hk => hk.2) (.string (rdOf ByteArray.empty t247 2))) (fun _ hk => hk.2) (.slice Ao63 t259.length co63)) (fun _ hk => trivial), ba HB⟩
                 ·rw [if_neg c55] at H
                  exact absurd H (by simp)
                ·rw [if_neg c54] at H
                 exact absurd H (by simp)
              ·rw [if_neg c43] at H
               exact absurd H (by simp)
             ·rw [if_neg c42] at H
              exact absurd H (by simp)
            ·rw [if_neg c41] at H
             exact absurd H (by simp)
        ·rw [if_neg c20] at H
         exact absurd H (by simp)
       ·rw [if_neg c19] at H
        exact absurd H (by simp)
end Go.Proofs.YtjfcmkddeglghaaGreatDoor.G
end
section
namespace Go.Proofs.YtjfcmkddeglghaaGreatDoor.G
open Go.RowKit Go.Proofs.YtjfcmkddeglghaaGreatDoorW.PrintWords Go.Proofs.YtjfcmkddeglghaaGreatDoorW.PrintLast Go.Proofs.YtjfcmkddeglghaaGreatDoorW.PrintMore
attribute [local go_sem] max2_int min2_int max_two min_two max_three min_three max_four min_four
set_option linter.unusedVariables false
set_option linter.unusedSimpArgs false
def r03_May.f (k : Nat) (a0 : ByteArray) : Option (Bool) := (r03_Split.f k a0).bind fun bt264 => (some bt264.2.2.2.2)
theorem r03_May.mono : ∀ a0 k, LeO (r03_May.f k a0) (r03_May.f (k + 1) a0) := by
 intro a0 k
 unfold r03_May.f
 repeat' first
   | (with_reducible exact r03_Split.mono _ _)
   | (with_reducible exact LeO.refl _)
   | (with_reducible exact LeO.none _)
   | (with_reducible refine LeO.ite ?_ ?_)
   | (with_reducible refine LeO.bind ?_ (fun _ => ?_))
   | exact r03_Split.mono _ _
   | exact LeO.none _
   | refine LeO.ite ?_ ?_
   | refine LeO.bind ?_ (fun _ => ?_)
set_option maxHeartbeats 8000000 in
set_option maxRecDepth 100000 in
theorem r03_May.calls (k : Nat) (a0 : ByteArray) (r : Bool) (w : World) (h : r03_May.f k a0 = some r) :
  Calls Tryz.prog 78 #[.string a0] w fun e w' => e = .returned (.bool r) ∧ Below w.heap.size w w' := by
 have hu146 := Tryz.underlying146
 have HB := Aside0.mk (Below.refl w.heap.size w)
 have H : ((r03_Split.f k a0).bind fun bt264 => (some bt264.2.2.2.2)) = some r := h
 clear h
 obtain ⟨⟨t264, t265, t266, t267, t270⟩, A2, H⟩ := bo H
 replace H : (some t270) = some r := H
 obtain rfl := Option.some.inj H
 go_enter Tryz.func78, Tryz.ntmps78
 go_wp2_with (first | ((with_reducible refine gate_callee (f := 116) rfl ?_); refine gl 7 Tryz.func116 #[.string a0] ?_; (with_reducible refine (r03_Split.calls k a0 t264 t265 t266 t267 t270 _ A2.out).mono ?_); rintro e w3 ⟨v268, rfl, ho0, hb⟩; refine ⟨_, rfl, ?_⟩; have n0_ := Aside0.mk (Kd.R_lower ho0 (bz HB)); have n1_ := bs HB hb; revert n0_ n1_; clear HB; intro HO269 HB; (try clear hb); (try clear ho0)) | ((with_reducible refine gate_dst (N := 3) rfl ?_); refine box_event ?hg (N := 3) ?hd (cs := #[.string (⟨#[]⟩ : ByteArray), .string (⟨#[]⟩ : ByteArray), .string (⟨#[]⟩ : ByteArray), .slice none 0 0]) (t := 146) ?hr ?_; (case hd => rfl); (case hg => rfl); (case hr => first | (go_simp; done) | (go_simp; rfl)); intro gb271 hg w4 hbox hb; have n0_ := rb HO269 hb; have n1_ := bs HB hb; have n2_ := Aside0.mk (hbox); have n3_ := gz hg HB; have n4_ := gz hg HB; revert n0_ n1_ n2_ n3_ n4_; clear HO269 HB; intro HO269 HB BK271 GW271 GE271; clear hb hbox hg; have hcz5_0 := bc BK271 0; have hcz5_1 := bc BK271 1; have hcz5_2 := bc BK271 2; have hcz5_3 := bc BK271 3; have hfz5_0 := bf BK271 0; have hfz5_1 := bf BK271 1; have hfz5_2 := bf BK271 2; have hfz5_3 := bf BK271 3; obtain ⟨Ao6, co6, eo6⟩ := Kd.R_slice HO269.out; subst eo6))
 go_ret
 exact ⟨by first | rfl | (simp [errW_none, errW_some] <;> rfl) | (simp [*, errW_none, errW_some] <;> rfl), ba HB⟩
end Go.Proofs.YtjfcmkddeglghaaGreatDoor.G
end
section
namespace Go.Proofs.YtjfcmkddeglghaaGreatDoor.G
open Go.RowKit Go.Proofs.YtjfcmkddeglghaaGreatDoorW.PrintWords Go.Proofs.YtjfcmkddeglghaaGreatDoorW.PrintLast Go.Proofs.YtjfcmkddeglghaaGreatDoorW.PrintMore
attribute [local go_sem] max2_int min2_int max_two min_two max_three min_three max_four min_four
set_option linter.unusedVariables false
set_option linter.unusedSimpArgs false
def r05_May.f (k : Nat) (a0_0 : ByteArray) (a0_1 : ByteArray) : Option (Bool) := (r04_May.f k a0_0).bind fun t273 => (if t273 = true then ((r03_May.f k a0_1).bind fun t274 => (some t274)) else (some false))
theorem r05_May.mono : ∀ a0 a1 k, LeO (r05_May.f k a0 a1) (r05_May.f (k + 1) a0 a1) := by
 intro a0 a1 k
 unfold r05_May.f
 repeat' first
   | (with_reducible exact r03_May.mono _ _)
   | (with_reducible exact r04_May.mono _ _)
   | (with_reducible exact LeO.refl _)
   | (with_reducible exact LeO.none _)
   | (with_reducible refine LeO.ite ?_ ?_)
   | (with_reducible refine LeO.bind ?_ (fun _ => ?_))
   | exact r03_May.mono _ _
   | exact r04_May.mono _ _
   | exact LeO.none _
   | refine LeO.ite ?_ ?_
   | refine LeO.bind ?_ (fun _ => ?_)
set_option maxHeartbeats 8000000 in
set_option maxRecDepth 100000 in
theorem r05_May.calls (k : Nat) (a0_0 : ByteArray) (a0_1 : ByteArray) (r : Bool) (w : World) (h : r05_May.f k a0_0 a0_1 = some r) :
  Calls Tryz.prog 23 #[.agg #[.string a0_0, .string a0_1]] w fun e w' => e = .returned (.bool r) ∧ Below w.heap.size w w' := by
 have hu24 := Tryz.underlying24
 have HB := Aside0.mk (Below.refl w.heap.size w)
 have H : ((r04_May.f k a0_0).bind fun t273 => (if t273 = true then ((r03_May.f k a0_1).bind fun t274 => (some t274)) else (some false))) = some r := h
 clear h
 obtain ⟨t273, A2, H⟩ := bo H
 by_cases c3 : t273 = true
 ·subst c3
  replace H := it H
  obtain ⟨t274, A4, H⟩ := bo H
  obtain rfl := Option.some.inj H
  go_enter Tryz.func23, Tryz.ntmps23
  go_wp2_with (first | ((with_reducible refine gate_dst (N := 1) rfl ?_); refine box_event ?hg (N := 1) ?hd (cs := #[.string a0_0, .string a0_1]) (t := 24) ?hr ?_; (case hd => rfl); (case hg => rfl); (case hr => first | (go_simp; done) | (go_simp; rfl)); intro gb272 hg w5 hbox hb; have n0_ := bs HB hb; have n1_ := Aside0.mk (hbox); have n2_ := gz hg HB; have n3_ := gz hg HB; revert n0_ n1_ n2_ n3_; clear HB; intro HB BK272 GW272 GE272; clear hb hbox hg; have hcz6_0 := bc BK272 0; have hcz6_1 := bc BK272 1; have hfz6_0 := bf BK272 0; have hfz6_1 := bf BK272 1) | ((with_reducible refine gate_callee (f := 54) rfl ?_); refine gl 5 Tryz.func54 #[.string a0_0] ?_; (with_reducible refine (r04_May.calls k a0_0 true _ A2.out).mono ?_); rintro e w7 ⟨rfl, hb⟩; refine ⟨_, rfl, ?_⟩; have n0_ := bb BK272 hb; have n1_ := bs HB hb; revert n0_ n1_; clear BK272 HB; intro BK272 HB; (try clear hb); have hcz8_0 := bc BK272 0; have hcz8_1 := bc BK272 1; have hfz8_0 := bf BK272 0; have hfz8_1 := bf BK272 1) | (go_at_call 78; (with_reducible refine (r03_May.calls k a0_1 t274 _ A4.out).mono ?_); rintro e w9 ⟨rfl, hb⟩; have n0_ := bb BK272 hb; have n1_ := bs HB hb; revert n0_ n1_; clear BK272 HB; intro BK272 HB; (try clear hb)))
  go_ret
  exact ⟨by first | rfl | (simp [errW_none, errW_some] <;> rfl) | (simp [*, errW_none, errW_some] <;> rfl), ba HB⟩
 ·replace c3 := Bool.eq_false_iff.mpr c3
  subst c3
  replace H := jf H
  obtain rfl := Option.some.inj H
  go_enter Tryz.func23, Tryz.ntmps23
  go_wp2_with (first | ((with_reducible refine gate_dst (N := 1) rfl ?_); refine box_event ?hg (N := 1) ?hd (cs := #[.string a0_0, .string a0_1]) (t := 24) ?hr ?_; (case hd => rfl); (case hg => rfl); (case hr => first | (go_simp; done) | (go_simp; rfl)); intro gb272 hg w10 hbox hb; have n0_ := bs HB hb; have n1_ := Aside0.mk (hbox); have n2_ := gz hg HB; have n3_ := gz hg HB; revert n0_ n1_ n2_ n3_; clear HB; intro HB BK272 GW272 GE272; clear hb hbox hg; have hcz11_0 := bc BK272 0; have hcz11_1 := bc BK272 1; have hfz11_0 := bf BK272 0; have hfz11_1 := bf BK272 1) | ((with_reducible refine gate_callee (f := 54) rfl ?_); refine gl 5 Tryz.func54 #[.string a0_0] ?_; (with_reducible refine (r04_May.calls k a0_0 false _ A2.out).mono ?_); rintro e w12 ⟨rfl, hb⟩; refine ⟨_, rfl, ?_⟩; have n0_ := bb BK272 hb; have n1_ := bs HB hb; revert n0_ n1_; clear BK272 HB; intro BK272 HB; (try clear hb)))
  go_ret
  exact ⟨by first | rfl | (simp [errW_none, errW_some] <;> rfl) | (simp [*, errW_none, errW_some] <;> rfl), ba HB⟩
end Go.Proofs.YtjfcmkddeglghaaGreatDoor.G
end
section
namespace Go.Proofs.YtjfcmkddeglghaaGreatDoor.G
open Go.RowKit Go.Proofs.YtjfcmkddeglghaaGreatDoorW.PrintWords Go.Proofs.YtjfcmkddeglghaaGreatDoorW.PrintLast Go.Proofs.YtjfcmkddeglghaaGreatDoorW.PrintMore
attribute [local go_sem] max2_int min2_int max_two min_two max_three min_three max_four min_four
set_option linter.unusedVariables false
set_option linter.unusedSimpArgs false
theorem eqA24 (d : Nat) (w : World) (x0 y0 : ByteArray) (x1 y1 : ByteArray) :
  (Op.equalIn (d + 2) 24 (.agg #[.string x0, .string x1]) (.agg #[.string y0, .string y1])).run Tryz.prog w = .ok (x0.toList == y0.toList && (x1.toList == y1.toList)) w := by
 refine eqA_of Tryz.underlying24 (by kernel_rfl) ?_
 refine eqf_cons (by rfl) (by go_simp; rfl) (by go_simp; rfl) (by go_simp) ?_
 exact eqf_last (by rfl) (by go_simp; rfl) (by go_simp; rfl) (by go_simp)
end Go.Proofs.YtjfcmkddeglghaaGreatDoor.G
end
section
namespace Go.Proofs.YtjfcmkddeglghaaGreatDoor.G
open Go.RowKit Go.Proofs.YtjfcmkddeglghaaGreatDoorW.PrintWords Go.Proofs.YtjfcmkddeglghaaGreatDoorW.PrintLast Go.Proofs.YtjfcmkddeglghaaGreatDoorW.PrintMore
attribute [local go_sem] max2_int min2_int max_two min_two max_three min_three max_four min_four
set_option linter.unusedVariables false
set_option linter.unusedSimpArgs false
attribute [local go_sem high] eqA24
def r18_May.l0 : Nat → List (S49) → Int → Option (Bool)
 | 0, _, _ => none
 | k + 1, x0, x3 => if x3 < (x0.length : Int) then (if 0 ≤ x3 then ((r05_May.f k ((rd_T49 x0 x3).f1.f0) ((rd_T49 x0 x3).f1.f1)).bind fun t276 => (if t276 = true then (if (!((((rd_T49 x0 x3).f0.f0).toList) == ([] : List UInt8)) || (!((((rd_T49 x0 x3).f0.f1).toList) == ([] : List UInt8)))) = true then ((r05_May.f k ((rd_T49 x0 x3).f0.f0) ((rd_T49 x0 x3).f0.f1)).bind fun t279 => (if t279 = true then (r18_May.l0 k x0 (wrap64 (x3 + 1))) else (some false))) else (r18_May.l0 k x0 (wrap64 (x3 + 1)))) else (some false))) else (none)) else (some true)
def r18_May.f (k : Nat) (l0 : List (S49)) : Option (Bool) := r18_May.l0 k l0 0
theorem r18_May.mono_l : ∀ k, (∀ y0 y1, LeO (r18_May.l0 k y0 y1) (r18_May.l0 (k + 1) y0 y1))
 | 0 => fun _ _ r h => by simp [r18_May.l0] at h
 | k + 1 => by
  have ih0 := r18_May.mono_l k
  ·intro y0 y1
   unfold r18_May.l0
   repeat' first
   | (with_reducible exact ih0 _ _)
   | (with_reducible exact r05_May.mono _ _ _)
   | (with_reducible exact LeO.refl _)
   | (with_reducible exact LeO.none _)
   | (with_reducible refine LeO.ite ?_ ?_)
   | (with_reducible refine LeO.bind ?_ (fun _ => ?_))
   | exact ih0 _ _
   | exact r05_May.mono _ _ _
   | exact LeO.none _
   | refine LeO.ite ?_ ?_
   | refine LeO.bind ?_ (fun _ => ?_)
theorem r18_May.mono : ∀ a0 k, LeO (r18_May.f k a0) (r18_May.f (k + 1) a0) := by
 intro a0 k
 have ih0 := r18_May.mono_l k
 unfold r18_May.f
 repeat' first
   | (with_reducible exact ih0 _ _)
   | (with_reducible exact r05_May.mono _ _ _)
   | (with_reducible exact LeO.refl _)
   | (with_reducible exact LeO.none _)
   | (with_reducible refine LeO.ite ?_ ?_)
   | (with_reducible refine LeO.bind ?_ (fun _ => ?_))
   | exact ih0 _ _
   | exact r05_May.mono _ _ _
   | exact LeO.none _
   | refine LeO.ite ?_ ?_
   | refine LeO.bind ?_ (fun _ => ?_)
set_option maxHeartbeats 8000000 in
set_option maxRecDepth 100000 in
theorem r18_May.calls (k : Nat) (A0 : Option Addr) (c0 : Nat) (l0 : List (S49)) (r : Bool) (w : World) (hr0 : Kd.C k49 w A0 l0.length l0) (hc0 : l0.length ≤ c0) (h : r18_May.f k l0 = some r) :
  Calls Tryz.prog 19 #[.slice A0 l0.length c0] w fun e w' => e = .returned (.bool r) ∧ Below w.heap.size w w' := by
 have hu24 := Tryz.underlying24
 have HR0 := Aside0.mk hr0
 have HC0 := Aside0.mk hc0
 clear hr0 hc0
 have HB := Aside0.mk (Below.refl w.heap.size w)
 have H : (r18_May.l0 k l0 0) = some r := h
 clear h
 have H' := Aside0.mk H
 clear H
 go_enter Tryz.func19, Tryz.ntmps19
 go_wp2
 go_loopg [3] k (fun kq v3 w' => ∃ (x3_1 : Int), v3 = .int .i64 x3_1 ∧ Aside0 (r18_May.l0 kq l0 x3_1 = some r) ∧ Aside0 (kq ≤ k) ∧ Aside0 (Below w.heap.size w w'))
 case atStart => exact ⟨(0), (by first | rfl | (simp; done) | (simp [*]; done)), H', ⟨Nat.le_refl _⟩, ⟨ba HB⟩⟩
 case round =>
  clear H'
  try clear c1
  obtain ⟨x3_1, rfl, HA, HK1, HB⟩ := hrel
  cases gk with
  | zero => exact absurd HA.out (by simp [r18_May.l0])
  | succ k1 =>
   have H := HA.out
   clear HA
   simp only [r18_May.l0] at H
   by_cases c2 : x3_1 < (l0.length : Int)
   ·rw [if_pos c2] at H
    have c2b0 : decide (x3_1 < (l0.length : Int)) = true := decide_eq_true c2
    clear c2
    by_cases c3 : 0 ≤ x3_1
    ·rw [if_pos c3] at H
     have c3b0 : decide (0 ≤ x3_1) = true := decide_eq_true c3
     clear c3
     obtain ⟨t276, A4, H⟩ := bo H
     by_cases c5 : t276 = true
     ·subst c5
      replace H := it H
      by_cases c6 : (!((((rd_T49 l0 x3_1).f0.f0).toList) == ([] : List UInt8)) || (!((((rd_T49 l0 x3_1).f0.f1).toList) == ([] : List UInt8)))) = true
      ·rw [if_pos c6] at H
       have c6b0 : (!((((rd_T49 l0 x3_1).f0.f0).toList) == ([] : List UInt8)) || (!((((rd_T49 l0 x3_1).f0.f1).toList) == ([] : List UInt8)))) = true := c6
       (try (have c6b0i := c6b0; simp only [show ∀ l_ : List UInt8, (l_ == []) = l_.isEmpty from fun l_ => by cases l_ <;> rfl] at c6b0i))
       clear c6
       obtain ⟨t279, A7, H⟩ := bo H
       by_cases c8 : t279 = true
       ·subst c8
        replace H := it H
        have H' := Aside0.mk H
        clear H
        have p275 : 0 ≤ (x3_1 : Int) := of_decide_eq_true (by first | (with_reducible assumption) | assumption)
        have q275 : x3_1 < (l0.length : Int) := of_decide_eq_true (by first | (with_reducible assumption) | assumption)
        obtain ⟨ad275, e275, hx275_0, hx275_1, hx275_2, hx275_3⟩ := at_T49 HR0.out x3_1 p275 q275
        cases e275
        replace hx275_0 := (HB.out.cell (World.block_lt_of_cell? w _ hx275_0)).trans hx275_0
        replace hx275_1 := (HB.out.cell (World.block_lt_of_cell? w _ hx275_1)).trans hx275_1
        replace hx275_2 := (HB.out.cell (World.block_lt_of_cell? w _ hx275_2)).trans hx275_2
        replace hx275_3 := (HB.out.cell (World.block_lt_of_cell? w _ hx275_3)).trans hx275_3
        replace p275 := eq_true p275
        replace q275 := eq_true q275
        go_wp2_with (first | ((with_reducible refine gate_callee (f := 23) rfl ?_); refine gl 15 Tryz.func23 #[.agg #[.string ((rd_T49 l0 x3_1).f1.f0), .string ((rd_T49 l0 x3_1).f1.f1)]] ?_; (with_reducible refine (r05_May.calls k1 ((rd_T49 l0 x3_1).f1.f0) ((rd_T49 l0 x3_1).f1.f1) true _ A4.out).mono ?_); rintro e w9 ⟨rfl, hb⟩; refine ⟨_, rfl, ?_⟩; have n0_ := bs HB hb; revert n0_; clear HB; intro HB; (try clear hb); have p277 : 0 ≤ (x3_1 : Int) := of_decide_eq_true (by first | (with_reducible assumption) | assumption); have q277 : x3_1 < (l0.length : Int) := of_decide_eq_true (by first | (with_reducible assumption) | assumption); obtain ⟨ad277, e277, hx277_0, hx277_1, hx277_2, hx277_3⟩ := at_T49 HR0.out x3_1 p277 q277; obtain rfl : ad275 = ad277 := (by injection e277); replace hx277_0 := (HB.out.cell (World.block_lt_of_cell? w _ hx277_0)).trans hx277_0; replace hx277_1 := (HB.out.cell (World.block_lt_of_cell? w _ hx277_1)).trans hx277_1; replace hx277_2 := (HB.out.cell (World.block_lt_of_cell? w _ hx277_2)).trans hx277_2; replace hx277_3 := (HB.out.cell (World.block_lt_of_cell? w _ hx277_3)).trans hx277_3; replace p277 := eq_true p277; replace q277 := eq_true q277; have p278 : 0 ≤ (x3_1 : Int) := of_decide_eq_true (by first | (with_reducible assumption) | assumption); have q278 : x3_1 < (l0.length : Int) := of_decide_eq_true (by first | (with_reducible assumption) | assumption); obtain ⟨ad278, e278, hx278_0, hx278_1, hx278_2, hx278_3⟩ := at_T49 HR0.out x3_1 p278 q278; obtain rfl : ad275 = ad278 := (by injection e278); replace hx278_0 := (HB.out.cell (World.block_lt_of_cell? w _ hx278_0)).trans hx278_0; replace hx278_1 := (HB.out.cell (World.block_lt_of_cell? w _ hx278_1)).trans hx278_1; replace hx278_2 := (HB.out.cell (World.block_lt_of_cell? w _ hx278_2)).trans hx278_2; replace hx278_3 := (HB.out.cell (World.block_lt_of_cell? w _ hx278_3)).trans hx278_3; replace p278 := eq_true p278; replace q278 := eq_true q278) | (go_at_call 23; (with_reducible refine (r05_May.calls k1 ((rd_T49 l0 x3_1).f0.f0) ((rd_T49 l0 x3_1).f0.f1) true _ A7.out).mono ?_); rintro e w10 ⟨rfl, hb⟩; have n0_ := bs HB hb; revert n0_; clear HB; intro HB; (try clear hb)))
        go_roundg k1
        case measure => have := HK1.out; omega
        case rel => exact ⟨(wrap64 (x3_1 + 1)), (by first | rfl | (simp; done) | (simp [*]; done)), H', ⟨by have := HK1.out; omega⟩, ⟨ba HB⟩⟩
       ·replace c8 := Bool.eq_false_iff.mpr c8
        subst c8
        replace H := jf H
        obtain rfl := Option.some.inj H
        have p275 : 0 ≤ (x3_1 : Int) := of_decide_eq_true (by first | (with_reducible assumption) | assumption)
        have q275 : x3_1 < (l0.length : Int) := of_decide_eq_true (by first | (with_reducible assumption) | assumption)
        obtain ⟨ad275, e275, hx275_0, hx275_1, hx275_2, hx275_3⟩ := at_T49 HR0.out x3_1 p275 q275
        cases e275
        replace hx275_0 := (HB.out.cell (World.block_lt_of_cell? w _ hx275_0)).trans hx275_0
        replace hx275_1 := (HB.out.cell (World.block_lt_of_cell? w _ hx275_1)).trans hx275_1
        replace hx275_2 := (HB.out.cell (World.block_lt_of_cell? w _ hx275_2)).trans hx275_2
        replace hx275_3 := (HB.out.cell (World.block_lt_of_cell? w _ hx275_3)).trans hx275_3
        replace p275 := eq_true p275
        replace q275 := eq_true q275
        go_wp2_with (first | ((with_reducible refine gate_callee (f := 23) rfl ?_); refine gl 15 Tryz.func23 #[.agg #[.string ((rd_T49 l0 x3_1).f1.f0), .string ((rd_T49 l0 x3_1).f1.f1)]] ?_; (with_reducible refine (r05_May.calls k1 ((rd_T49 l0 x3_1).f1.f0) ((rd_T49 l0 x3_1).f1.f1) true _ A4.out).mono ?_); rintro e w11 ⟨rfl, hb⟩; refine ⟨_, rfl, ?_⟩; have n0_ := bs HB hb; revert n0_; clear HB; intro HB; (try clear hb); have p277 : 0 ≤ (x3_1 : Int) := of_decide_eq_true (by first | (with_reducible assumption) | assumption); have q277 : x3_1 < (l0.length : Int) := of_decide_eq_true (by first | (with_reducible assumption) | assumption); obtain ⟨ad277, e277, hx277_0, hx277_1, hx277_2, hx277_3⟩ := at_T49 HR0.out x3_1 p277 q277; obtain rfl : ad275 = ad277 := (by injection e277); replace hx277_0 := (HB.out.cell (World.block_lt_of_cell? w _ hx277_0)).trans hx277_0; replace hx277_1 := (HB.out.cell (World.block_lt_of_cell? w _ hx277_1)).trans hx277_1; replace hx277_2 := (HB.out.cell (World.block_lt_of_cell? w _ hx277_2)).trans hx277_2; replace hx277_3 := (HB.out.cell (World.block_lt_of_cell? w _ hx277_3)).trans hx277_3; replace p277 := eq_true p277; replace q277 := eq_true q277; have p278 : 0 ≤ (x3_1 : Int) := of_decide_eq_true (by first | (with_reducible assumption) | assumption); have q278 : x3_1 < (l0.length : Int) := of_decide_eq_true (by first | (with_reducible assumption) | assumption); obtain ⟨ad278, e278, hx278_0, hx278_1, hx278_2, hx278_3⟩ := at_T49 HR0.out x3_1 p278 q278; obtain rfl : ad275 = ad278 := (by injection e278); replace hx278_0 := (HB.out.cell (World.block_lt_of_cell? w _ hx278_0)).trans hx278_0; replace hx278_1 := (HB.out.cell (World.block_lt_of_cell? w _ hx278_1)).trans hx278_1; replace hx278_2 := (HB.out.cell (World.block_lt_of_cell? w _ hx278_2)).trans hx278_2; replace hx278_3 := (HB.out.cell (World.block_lt_of_cell? w _ hx278_3)).trans hx278_3; replace p278 := eq_true p278; replace q278 := eq_true q278) | (go_at_call 23; (with_reducible refine (r05_May.calls k1 ((rd_T49 l0 x3_1).f0.f0) ((rd_T49 l0 x3_1).f0.f1) false _ A7.out).mono ?_); rintro e w12 ⟨rfl, hb⟩; have n0_ := bs HB hb; revert n0_; clear HB; intro HB; (try clear hb)))
        go_ret
        exact ⟨by first | rfl | (simp [errW_none, errW_some] <;> rfl) | (simp [*, errW_none, errW_some] <;> rfl), ba HB⟩
      ·rw [if_neg c6] at H
       have c6b0 : (!((((rd_T49 l0 x3_1).f0.f0).toList) == ([] : List UInt8)) || (!((((rd_T49 l0 x3_1).f0.f1).toList) == ([] : List UInt8)))) = false := by simpa using c6
       (try (have c6b0i := c6b0; simp only [show ∀ l_ : List UInt8, (l_ == []) = l_.isEmpty from fun l_ => by cases l_ <;> rfl] at c6b0i))
       clear c6
       have H' := Aside0.mk H
       clear H
       have p275 : 0 ≤ (x3_1 : Int) := of_decide_eq_true (by first | (with_reducible assumption) | assumption)
       have q275 : x3_1 < (l0.length : Int) := of_decide_eq_true (by first | (with_reducible assumption) | assumption)
       obtain ⟨ad275, e275, hx275_0, hx275_1, hx275_2, hx275_3⟩ := at_T49 HR0.out x3_1 p275 q275
       cases e275
       replace hx275_0 := (HB.out.cell (World.block_lt_of_cell? w _ hx275_0)).trans hx275_0
       replace hx275_1 := (HB.out.cell (World.block_lt_of_cell? w _ hx275_1)).trans hx275_1
       replace hx275_2 := (HB.out.cell (World.block_lt_of_cell? w _ hx275_2)).trans hx275_2
       replace hx275_3 := (HB.out.cell (World.block_lt_of_cell? w _ hx275_3)).trans hx275_3
       replace p275 := eq_true p275
       replace q275 := eq_true q275
       go_wp2_with (first | ((with_reducible refine gate_callee (f := 23) rfl ?_); refine gl 15 Tryz.func23 #[.agg #[.string ((rd_T49 l0 x3_1).f1.f0), .string ((rd_T49 l0 x3_1).f1.f1)]] ?_; (with_reducible refine (r05_May.calls k1 ((rd_T49 l0 x3_1).f1.f0) ((rd_T49 l0 x3_1).f1.f1) true _ A4.out).mono ?_); rintro e w13 ⟨rfl, hb⟩; refine ⟨_, rfl, ?_⟩; have n0_ := bs HB hb; revert n0_; clear HB; intro HB; (try clear hb); have p277 : 0 ≤ (x3_1 : Int) := of_decide_eq_true (by first | (with_reducible assumption) | assumption); have q277 : x3_1 < (l0.length : Int) := of_decide_eq_true (by first | (with_reducible assumption) | assumption); obtain ⟨ad277, e277, hx277_0, hx277_1, hx277_2, hx277_3⟩ := at_T49 HR0.out x3_1 p277 q277; obtain rfl : ad275 = ad277 := (by injection e277); replace hx277_0 := (HB.out.cell (World.block_lt_of_cell? w _ hx277_0)).trans hx277_0; replace hx277_1 := (HB.out.cell (World.block_lt_of_cell? w _ hx277_1)).trans hx277_1; replace hx277_2 := (HB.out.cell (World.block_lt_of_cell? w _ hx277_2)).trans hx277_2; replace hx277_3 := (HB.out.cell (World.block_lt_of_cell? w _ hx277_3)).trans hx277_3; replace p277 := eq_true p277; replace q277 := eq_true q277))
       go_roundg k1
       case measure => have := HK1.out; omega
       case rel => exact ⟨(wrap64 (x3_1 + 1)), (by first | rfl | (simp; done) | (simp [*]; done)), H', ⟨by have := HK1.out; omega⟩, ⟨ba HB⟩⟩
     ·replace c5 := Bool.eq_false_iff.mpr c5
      subst c5
      replace H := jf H
      obtain rfl := Option.some.inj H
      have p275 : 0 ≤ (x3_1 : Int) := of_decide_eq_true (by first | (with_reducible assumption) | assumption)
      have q275 : x3_1 < (l0.length : Int) := of_decide_eq_true (by first | (with_reducible assumption) | assumption)
      obtain ⟨ad275, e275, hx275_0, hx275_1, hx275_2, hx275_3⟩ := at_T49 HR0.out x3_1 p275 q275
      cases e275
      replace hx275_0 := (HB.out.cell (World.block_lt_of_cell? w _ hx275_0)).trans hx275_0
      replace hx275_1 := (HB.out.cell (World.block_lt_of_cell? w _ hx275_1)).trans hx275_1
      replace hx275_2 := (HB.out.cell (World.block_lt_of_cell? w _ hx275_2)).trans hx275_2
      replace hx275_3 := (HB.out.cell (World.block_lt_of_cell? w _ hx275_3)).trans hx275_3
      replace p275 := eq_true p275
      replace q275 := eq_true q275
      go_wp2_with (first | ((with_reducible refine gate_callee (f := 23) rfl ?_); refine gl 15 Tryz.func23 #[.agg #[.string ((rd_T49 l0 x3_1).f1.f0), .string ((rd_T49 l0 x3_1).f1.f1)]] ?_; (with_reducible refine (r05_May.calls k1 ((rd_T49 l0 x3_1).f1.f0) ((rd_T49 l0 x3_1).f1.f1) false _ A4.out).mono ?_); rintro e w14 ⟨rfl, hb⟩; refine ⟨_, rfl, ?_⟩; have n0_ := bs HB hb; revert n0_; clear HB; intro HB; (try clear hb)))
      go_ret
      exact ⟨by first | rfl | (simp [errW_none, errW_some] <;> rfl) | (simp [*, errW_none, errW_some] <;> rfl), ba HB⟩
    ·rw [if_neg c3] at H
     exact absurd H (by simp)
   ·rw [if_neg c2] at H
    have c2b0 : decide (x3_1 < (l0.length : Int)) = false := decide_eq_false c2
    clear c2
    obtain rfl := Option.some.inj H
    go_wp2
    go_ret
    exact ⟨by first | rfl | (simp [errW_none, errW_some] <;> rfl) | (simp [*, errW_none, errW_some] <;> rfl), ba HB⟩
end Go.Proofs.YtjfcmkddeglghaaGreatDoor.G
end
section
namespace Go.Proofs.YtjfcmkddeglghaaGreatDoor.G
open Go.RowKit Go.Proofs.YtjfcmkddeglghaaGreatDoorW.PrintWords Go.Proofs.YtjfcmkddeglghaaGreatDoorW.PrintLast Go.Proofs.YtjfcmkddeglghaaGreatDoorW.PrintMore
attribute [local go_sem] max2_int min2_int max_two min_two max_three min_three max_four min_four
set_option linter.unusedVariables false
set_option linter.unusedSimpArgs false
theorem eqA46 (d : Nat) (w : World) (x0 y0 : ByteArray) (x1 y1 : ByteArray) (x2 y2 : Int) :
  (Op.equalIn (d + 3) 46 (.agg #[.string x0, .string x1, .int .i64 x2]) (.agg #[.string y0, .string y1, .int .i64 y2])).run Tryz.prog w = .ok ((x0.toList == y0.toList && (x1.toList == y1.toList)) && (x2 == y2)) w := by
 refine eqA_of Tryz.underlying46 (by kernel_rfl) ?_
 refine eqf_cons (by rfl) (by go_simp) (by go_simp) (eqA24 (d + 0) w _ _ _ _) ?_
 exact eqf_last (by rfl) (by go_simp; rfl) (by go_simp; rfl) (by go_simp)
end Go.Proofs.YtjfcmkddeglghaaGreatDoor.G
end
section
namespace Go.Proofs.YtjfcmkddeglghaaGreatDoor.G
open Go.RowKit Go.Proofs.YtjfcmkddeglghaaGreatDoorW.PrintWords Go.Proofs.YtjfcmkddeglghaaGreatDoorW.PrintLast Go.Proofs.YtjfcmkddeglghaaGreatDoorW.PrintMore
attribute [local go_sem] max2_int min2_int max_two min_two max_three min_three max_four min_four
set_option linter.unusedVariables false
set_option linter.unusedSimpArgs false
attribute [local go_sem high] eqA46
def w19_deeps.l0 : Nat → List (S46) → List (S46) → Int → Option (Bool)
 | 0, _, _, _ => none
 | k + 1, x0, x1, x5 => if x5 < (x0.length : Int) then (if 0 ≤ x5 then (if x5 < (x1.length : Int) then (if ((!((((rd_T46 x0 x5).f0.f0).toList) == (((rd_T46 x1 x5).f0.f0).toList)) || (!((((rd_T46 x0 x5).f0.f1).toList) == (((rd_T46 x1 x5).f0.f1).toList)))) || (!(((rd_T46 x0 x5).f1) == ((rd_T46 x1 x5).f1)))) = true then (some false) else (w19_deeps.l0 k x0 x1 (wrap64 (x5 + 1)))) else (none)) else (none)) else (some true)
def w19_deeps.f (k : Nat) (l0 : List (S46)) (l1 : List (S46)) : Option (Bool) := if (l0.length : Int) = (l1.length : Int) then (w19_deeps.l0 k l0 l1 0) else (some false)
theorem w19_deeps.mono_l : ∀ k, (∀ y0 y1 y2, LeO (w19_deeps.l0 k y0 y1 y2) (w19_deeps.l0 (k + 1) y0 y1 y2))
 | 0 => fun _ _ _ r h => by simp [w19_deeps.l0] at h
 | k + 1 => by
  have ih0 := w19_deeps.mono_l k
  ·intro y0 y1 y2
   unfold w19_deeps.l0
   repeat' first
   | (with_reducible exact ih0 _ _ _)
   | (with_reducible exact LeO.refl _)
   | (with_reducible exact LeO.none _)
   | (with_reducible refine LeO.ite ?_ ?_)
   | (with_reducible refine LeO.bind ?_ (fun _ => ?_))
   | exact ih0 _ _ _
   | exact LeO.none _
   | refine LeO.ite ?_ ?_
   | refine LeO.bind ?_ (fun _ => ?_)
theorem w19_deeps.mono : ∀ a0 a1 k, LeO (w19_deeps.f k a0 a1) (w19_deeps.f (k + 1) a0 a1) := by
 intro a0 a1 k
 have ih0 := w19_deeps.mono_l k
 unfold w19_deeps.f
 repeat' first
   | (with_reducible exact ih0 _ _ _)
   | (with_reducible exact LeO.refl _)
   | (with_reducible exact LeO.none _)
   | (with_reducible refine LeO.ite ?_ ?_)
   | (with_reducible refine LeO.bind ?_ (fun _ => ?_))
   | exact ih0 _ _ _
   | exact LeO.none _
   | refine LeO.ite ?_ ?_
   | refine LeO.bind ?_ (fun _ => ?_)
set_option maxHeartbeats 8000000 in
set_option maxRecDepth 100000 in
theorem w19_deeps.calls (k : Nat) (A0 : Option Addr) (c0 : Nat) (l0 : List (S46)) (A1 : Option Addr) (c1 : Nat) (l1 : List (S46)) (r : Bool) (w : World) (hr0 : Kd.C k46 w A0 l0.length l0) (hc0 : l0.length ≤ c0) (hr1 : Kd.C k46 w A1 l1.length l1) (hc1 : l1.length ≤ c1) (h : w19_deeps.f k l0 l1 = some r) :
  Calls Tryz.prog 21 #[.slice A0 l0.length c0, .slice A1 l1.length c1] w fun e w' => e = .returned (.bool r) ∧ Drawn0 w w' := by
 have hu46 := Tryz.underlying46
 have HR0 := Aside0.mk hr0
 have HC0 := Aside0.mk hc0
 clear hr0 hc0
 have HR1 := Aside0.mk hr1
 have HC1 := Aside0.mk hc1
 clear hr1 hc1
 have H : (if (l0.length : Int) = (l1.length : Int) then (w19_deeps.l0 k l0 l1 0) else (some false)) = some r := h
 clear h
 by_cases c3 : (l0.length : Int) = (l1.length : Int)
 ·rw [if_pos c3] at H
  have c3b0 := beq_iff_eq.mpr c3
  have c3b1 := bne_eq_false_iff_eq.mpr c3
  have c3b2 : (l0.length == l1.length) = true := by first | simpa using c3 | (simp at c3 ⊢; omega)
  clear c3
  have H' := Aside0.mk H
  clear H
  go_enter Tryz.func21, Tryz.ntmps21
  go_wp2
  repeat (go_quiet (fail); try go_wp2)
  go_loopg [5] k (fun kq v5 w' => ∃ (x5_1 : Int), v5 = .int .i64 x5_1 ∧ Aside0 (w19_deeps.l0 kq l0 l1 x5_1 = some r) ∧ Aside0 (kq ≤ k) ∧ Drawn0 w w')
  case atStart => exact ⟨(0), (by first | rfl | (simp; done) | (simp [*]; done)), H', ⟨Nat.le_refl _⟩, by repeat (first | exact Drawn0.refl _ | apply Drawn0.step)⟩
  case round =>
   clear H'
   try clear c1
   try clear c2
   try clear p2
   try clear c3
   try clear c3b0
   try clear c3b1
   try clear c3b2
   obtain ⟨x5_1, rfl, HA, HK1, ⟨m1, rfl⟩⟩ := hrel
   cases gk with
   | zero => exact absurd HA.out (by simp [w19_deeps.l0])
   | succ k1 =>
    have H := HA.out
    clear HA
    simp only [w19_deeps.l0] at H
    by_cases c4 : x5_1 < (l0.length : Int)
    ·rw [if_pos c4] at H
     have c4b0 : decide (x5_1 < (l0.length : Int)) = true := decide_eq_true c4
     clear c4
     by_cases c5 : 0 ≤ x5_1
     ·rw [if_pos c5] at H
      have c5b0 : decide (0 ≤ x5_1) = true := decide_eq_true c5
      clear c5
      by_cases c6 : x5_1 < (l1.length : Int)
      ·rw [if_pos c6] at H
       have c6b0 : decide (x5_1 < (l1.length : Int)) = true := decide_eq_true c6
       clear c6
       by_cases c7 : ((!((((rd_T46 l0 x5_1).f0.f0).toList) == (((rd_T46 l1 x5_1).f0.f0).toList)) || (!((((rd_T46 l0 x5_1).f0.f1).toList) == (((rd_T46 l1 x5_1).f0.f1).toList)))) || (!(((rd_T46 l0 x5_1).f1) == ((rd_T46 l1 x5_1).f1)))) = true
       ·rw [if_pos c7] at H
        have c7b0 : ((!((((rd_T46 l0 x5_1).f0.f0).toList) == (((rd_T46 l1 x5_1).f0.f0).toList)) || (!((((rd_T46 l0 x5_1).f0.f1).toList) == (((rd_T46 l1 x5_1).f0.f1).toList)))) || (!(((rd_T46 l0 x5_1).f1) == ((rd_T46 l1 x5_1).f1)))) = true := c7
        clear c7
        obtain rfl := Option.some.inj H
        have p280 : 0 ≤ (x5_1 : Int) := of_decide_eq_true (by first | (with_reducible assumption) | assumption)
        have q280 : x5_1 < (l0.length : Int) := of_decide_eq_true (by first | (with_reducible assumption) | assumption)
        obtain ⟨ad280, e280, hx280_0, hx280_1, hx280_2⟩ := at_T46 HR0.out x5_1 p280 q280
        cases e280
        replace p280 := eq_true p280
        replace q280 := eq_true q280
        have p281 : 0 ≤ (x5_1 : Int) := of_decide_eq_true (by first | (with_reducible assumption) | assumption)
        have q281 : x5_1 < (l1.length : Int) := of_decide_eq_true (by first | (with_reducible assumption) | assumption)
        obtain ⟨ad281, e281, hx281_0, hx281_1, hx281_2⟩ := at_T46 HR1.out x5_1 p281 q281
        cases e281
        replace p281 := eq_true p281
        replace q281 := eq_true q281
        go_wp2
        repeat (go_quiet (fail); try go_wp2)
        go_ret
        exact ⟨by first | rfl | (simp; done) | (simp [*]; done), by repeat (first | exact Drawn0.refl _ | apply Drawn0.step)⟩
       ·rw [if_neg c7] at H
        have c7b0 : ((!((((rd_T46 l0 x5_1).f0.f0).toList) == (((rd_T46 l1 x5_1).f0.f0).toList)) || (!((((rd_T46 l0 x5_1).f0.f1).toList) == (((rd_T46 l1 x5_1).f0.f1).toList)))) || (!(((rd_T46 l0 x5_1).f1) == ((rd_T46 l1 x5_1).f1)))) = false := by simpa using c7
        clear c7
        have H' := Aside0.mk H
        clear H
        have p280 : 0 ≤ (x5_1 : Int) := of_decide_eq_true (by first | (with_reducible assumption) | assumption)
        have q280 : x5_1 < (l0.length : Int) := of_decide_eq_true (by first | (with_reducible assumption) | assumption)
        obtain ⟨ad280, e280, hx280_0, hx280_1, hx280_2⟩ := at_T46 HR0.out x5_1 p280 q280
        cases e280
        replace p280 := eq_true p280
        replace q280 := eq_true q280
        have p281 : 0 ≤ (x5_1 : Int) := of_decide_eq_true (by first | (with_reducible assumption) | assumption)
        have q281 : x5_1 < (l1.length : Int) := of_decide_eq_true (by first | (with_reducible assumption) | assumption)
        obtain ⟨ad281, e281, hx281_0, hx281_1, hx281_2⟩ := at_T46 HR1.out x5_1 p281 q281
        cases e281
        replace p281 := eq_true p281
        replace q281 := eq_true q281
        go_wp2
        repeat (go_quiet (fail); try go_wp2)
        go_roundg k1
        case measure => have := HK1.out; omega
        case rel => exact ⟨(wrap64 (x5_1 + 1)), (by first | rfl | (simp; done) | (simp [*]; done)), H', ⟨by have := HK1.out; omega⟩, by repeat (first | exact Drawn0.refl _ | apply Drawn0.step)⟩
      ·rw [if_neg c6] at H
       exact absurd H (by simp)
     ·rw [if_neg c5] at H
      exact absurd H (by simp)
    ·rw [if_neg c4] at H
     have c4b0 : decide (x5_1 < (l0.length : Int)) = false := decide_eq_false c4
     clear c4
     obtain rfl := Option.some.inj H
     go_wp2
     repeat (go_quiet (fail); try go_wp2)
     go_ret
     exact ⟨by first | rfl | (simp; done) | (simp [*]; done), by repeat (first | exact Drawn0.refl _ | apply Drawn0.step)⟩
 ·rw [if_neg c3] at H
  have c3b0 := beq_eq_false_iff_ne.mpr c3
  have c3b1 := bne_iff_ne.mpr c3
  have c3b2 : (l0.length == l1.length) = false := by first | simpa using c3 | (simp at c3 ⊢; omega)
  obtain rfl := Option.some.inj H
  go_enter Tryz.func21, Tryz.ntmps21
  go_wp2
  repeat (go_quiet (fail); try go_wp2)
  go_ret
  exact ⟨by first | rfl | (simp; done) | (simp [*]; done), by repeat (first | exact Drawn0.refl _ | apply Drawn0.step)⟩
end Go.Proofs.YtjfcmkddeglghaaGreatDoor.G
end
