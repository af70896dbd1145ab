/- For every list of needs and every node WhyTells returns true, as the card says: how far nodes are away, and the chain to a node, are as the document says, or the error is. Condition: when the call begins, utf8.acceptRanges and utf8.first hold what Go's own text lays. (part 6 of its proof) -/
import Derived.Calls
import Derived.Deep.LoopGhost
import Derived.Laws.Cover1
import Derived.Maps.Own
import Derived.Maps.RangeRun
import Derived.RunT
import Derived.Shelf.SlSortCmp.NoneTotal
import Derived.Shelf.SlSortCmp.WholeK
import Derived.Test.YtjfcmkddeglghaaGreatDoorKa1
import Derived.Test.YtjfcmkddeglghaaGreatDoorKa2
import Derived.Test.YtjfcmkddeglghaaGreatDoorKa3
import Derived.Test.YtjfcmkddeglghaaGreatDoorKa4
import Derived.Test.YtjfcmkddeglghaaGreatDoorKa5
section
namespace Go.Proofs.YtjfcmkddeglghaaGreatDoor.G
open Go.RowKit Go.Proofs.YtjfcmkddeglghaaGreatDoorW.PrintWords Go.Proofs.YtjfcmkddeglghaaGreatDoorW.PrintLast Go.Proofs.YtjfcmkddeglghaaGreatDoorW.PrintMore
attribute [local go_sem] max2_int min2_int max_two min_two max_three min_three max_four min_four
set_option linter.unusedVariables false
set_option linter.unusedSimpArgs false
mutual
def r19_Depths.l0 : Nat → List (List (S24)) → List (S24) → Int → Option ((List (S46)))
 | 0, _, _, _ => none
 | k + 1, x3, x4, x5 => if x5 < (x3.length : Int) then (if 0 ≤ x5 then (if x4.length + (rd_L11 x3 x5).length < 4398046511104 then (r19_Depths.l0 k x3 (x4 ++ (rd_L11 x3 x5)) (wrap64 (x5 + 1))) else (none)) else (none)) else ((r05_Set.f k x4).bind fun t349 => (r19_Depths.l1 k x3 t349 ([] : List (S46)) 0))
def r19_Depths.l1 : Nat → List (List (S24)) → List (S24) → List (S46) → Int → Option ((List (S46)))
 | 0, _, _, _, _ => none
 | k + 1, x3, x4, x6, x7 => if x7 < (x4.length : Int) then (if 0 ≤ x7 then ((r19_Depth.f k x3 ((rd_T24 x4 x7).f0) ((rd_T24 x4 x7).f1)).bind fun t354 => (if x6.length < 3518437208883 then (r19_Depths.l1 k x3 x4 (x6 ++ [(⟨(⟨(rd_T24 x4 x7).f0, (rd_T24 x4 x7).f1⟩ : S24), t354⟩ : S46)]) (wrap64 (x7 + 1))) else (none))) else (none)) else (some x6)
end
def r19_Depths.f (k : Nat) (l0 : List (S49)) : Option ((List (S46))) := (r19_Levels.f l0).bind fun t342 => (r19_Depths.l0 k t342 ([] : List (S24)) 0)
theorem r19_Depths.mono_l : ∀ k, (∀ y0 y1 y2, LeO (r19_Depths.l0 k y0 y1 y2) (r19_Depths.l0 (k + 1) y0 y1 y2)) ∧ (∀ y0 y1 y2 y3, LeO (r19_Depths.l1 k y0 y1 y2 y3) (r19_Depths.l1 (k + 1) y0 y1 y2 y3))
 | 0 => ⟨fun _ _ _ r h => by simp [r19_Depths.l0] at h, fun _ _ _ _ r h => by simp [r19_Depths.l1] at h⟩
 | k + 1 => by
  obtain ⟨ih0, ih1⟩ := r19_Depths.mono_l k
  refine ⟨?_, ?_⟩
  ·intro y0 y1 y2
   unfold r19_Depths.l0
   repeat' first
   | (with_reducible exact ih0 _ _ _)
   | (with_reducible exact ih1 _ _ _ _)
   | (with_reducible exact r05_Set.mono _ _)
   | (with_reducible exact r19_Depth.mono _ _ _ _)
   | (with_reducible exact LeO.refl _)
   | (with_reducible exact LeO.none _)
   | (with_reducible refine LeO.ite ?_ ?_)
   | (with_reducible refine LeO.bind ?_ (fun _ => ?_))
   | exact ih0 _ _ _
   | exact ih1 _ _ _ _
   | exact r05_Set.mono _ _
   | exact r19_Depth.mono _ _ _ _
   | exact LeO.none _
   | refine LeO.ite ?_ ?_
   | refine LeO.bind ?_ (fun _ => ?_)
  ·intro y0 y1 y2 y3
   unfold r19_Depths.l1
   repeat' first
   | (with_reducible exact ih0 _ _ _)
   | (with_reducible exact ih1 _ _ _ _)
   | (with_reducible exact r05_Set.mono _ _)
   | (with_reducible exact r19_Depth.mono _ _ _ _)
   | (with_reducible exact LeO.refl _)
   | (with_reducible exact LeO.none _)
   | (with_reducible refine LeO.ite ?_ ?_)
   | (with_reducible refine LeO.bind ?_ (fun _ => ?_))
   | exact ih0 _ _ _
   | exact ih1 _ _ _ _
   | exact r05_Set.mono _ _
   | exact r19_Depth.mono _ _ _ _
   | exact LeO.none _
   | refine LeO.ite ?_ ?_
   | refine LeO.bind ?_ (fun _ => ?_)
theorem r19_Depths.mono : ∀ a0 k, LeO (r19_Depths.f k a0) (r19_Depths.f (k + 1) a0) := by
 intro a0 k
 obtain ⟨ih0, ih1⟩ := r19_Depths.mono_l k
 unfold r19_Depths.f
 repeat' first
   | (with_reducible exact ih0 _ _ _)
   | (with_reducible exact ih1 _ _ _ _)
   | (with_reducible exact r05_Set.mono _ _)
   | (with_reducible exact r19_Depth.mono _ _ _ _)
   | (with_reducible exact LeO.refl _)
   | (with_reducible exact LeO.none _)
   | (with_reducible refine LeO.ite ?_ ?_)
   | (with_reducible refine LeO.bind ?_ (fun _ => ?_))
   | exact ih0 _ _ _
   | exact ih1 _ _ _ _
   | exact r05_Set.mono _ _
   | exact r19_Depth.mono _ _ _ _
   | exact LeO.none _
   | refine LeO.ite ?_ ?_
   | refine LeO.bind ?_ (fun _ => ?_)
def r19_Depths.T12 : Bool × List (List Nat × List Nat) := (true, [([], []), ([], []), ([], []), ([1, 2], [1, 2]), ([3], [3]), ([], []), ([], []), ([], []), ([6, 7], [6, 7]), ([8], [8]), ([5, 9], [5, 9]), ([4, 10], [4, 10]), ([11], [11]), ([0, 12, 10], [0, 12]), ([13, 13, 0, 1, 2, 3, 4, 5, 6, 7, 8, 9, 10, 11, 12, 13], [0, 13])])
def r19_Depths.B12 : List Nat := [0, 0, 0, 6, 14, 0, 0, 0, 192, 448, 992, 2046, 4094, 8191, 16383]
theorem r19_Depths.tab12 : rtab .any (opsOf Tryz.f22 12) = r19_Depths.T12 := by kernel_rfl
theorem r19_Depths.bits12 : waitsOk r19_Depths.T12.2 r19_Depths.B12 = true := by kernel_rfl
set_option maxHeartbeats 8000000 in
set_option maxRecDepth 100000 in
theorem r19_Depths.calls (k : Nat) (A0 : Option Addr) (c0 : Nat) (l0 : List (S49)) (r : List (S46)) (w : World) (hr0 : Kd.C k49 w A0 l0.length l0) (hc0 : l0.length ≤ c0) (h : r19_Depths.f k l0 = some r) :
  Calls Tryz.prog 22 #[.slice A0 l0.length c0] w fun e w' => ∃ v0_ : Value, e = .returned (v0_) ∧ Kd.R k46 46 w' w.heap.size (fun _ => True) v0_ r ∧ Below w.heap.size w w' := by
 have hu24 := Tryz.underlying24
 have hu46 := Tryz.underlying46
 have HR0 := Aside0.mk hr0
 have HC0 := Aside0.mk hc0
 clear hr0 hc0
 have HB := Aside0.mk (Below.refl w.heap.size w)
 have H : ((r19_Levels.f l0).bind fun t342 => (r19_Depths.l0 k t342 ([] : List (S24)) 0)) = some r := h
 clear h
 obtain ⟨t342, A2, H⟩ := bo H
 have H' := Aside0.mk H
 clear H
 go_enter Tryz.func22, Tryz.ntmps22
 go_wp2_with (first | ((with_reducible refine gate_callee (f := 24) rfl ?_); refine gl 9 Tryz.func24 #[.slice A0 l0.length c0] ?_; (with_reducible refine (r19_Levels.calls _ _ l0 t342 _ ?side1 ?side2 A2.out).mono ?_); (case side1 => repeat (first | exact HR0.out | (with_reducible refine Kd.C_alloc ?_ _) | (with_reducible refine Kd.C_drewN ?_ _) | (with_reducible refine Kd.C_drew ?_))); (case side2 => exact HC0.out); rintro e w3 ⟨v343, rfl, ho0, hb⟩; refine ⟨_, rfl, ?_⟩; have n0_ := Aside0.mk (Kd.S_lower ho0 (bz HB)); have n1_ := bs HB hb; revert n0_ n1_; clear HB; intro HO344 HB; (try clear hb); (try clear ho0)))
 go_loopg [4, 5] k (fun kq v4 v5 w' => ∃ (x4_1 : List (S24)) (x5_1 : Int), v5 = .int .i64 x5_1 ∧ Aside0 (r19_Depths.l0 kq t342 x4_1 x5_1 = some r) ∧ Aside0 (kq ≤ k) ∧ Aside0 (Kd.S (Kd.slice 24 k24) 31 w' w.heap.size (fun k_ => some k_ ≠ (v4 : Value).ownBlock) v343 t342) ∧ Aside0 (Kd.R k24 24 w' w.heap.size (fun _ => True) v4 x4_1) ∧ Aside0 (Below w.heap.size w w'))
 case atStart => exact ⟨(([] : List (S24))), (0), (by first | rfl | (simp; done) | (simp [*]; done)), H', ⟨Nat.le_refl _⟩, ⟨by (with_reducible repeat (first | apply Kd.S_alloc | apply Kd.S_drewN | apply Kd.S_drew)); exact Kd.S_mono HO344.out (fun _ hk => (by simp [Value.ownBlock]))⟩, ⟨by first | exact Kd.R_nil _ _ _ _ _ | exact Kd.N_nil _ _ _ _ _ | exact Kd.V_nil _ _ _ _ _ | exact Kd.Q_nil _ _ _ _ _ | exact Kd.S_nil _ _ _ _ _⟩, ⟨ba HB⟩⟩
 case round =>
  clear H'
  try clear c2
  try clear p2
  obtain ⟨x4_1, x5_1, rfl, HA, HK1, HO_3, HO_4, HB⟩ := hrel
  cases gk with
  | zero => exact absurd HA.out (by simp [r19_Depths.l0])
  | succ k1 =>
   have H := HA.out
   clear HA
   simp only [r19_Depths.l0] at H
   by_cases c4 : x5_1 < (t342.length : Int)
   ·rw [if_pos c4] at H
    have c4b0 : decide (x5_1 < (t342.length : Int)) = true := decide_eq_true c4
    clear c4
    by_cases c5 : 0 ≤ x5_1
    ·rw [if_pos c5] at H
     have c5b0 : decide (0 ≤ x5_1) = true := decide_eq_true c5
     clear c5
     by_cases c6 : x4_1.length + (rd_L11 t342 x5_1).length < 4398046511104
     ·rw [if_pos c6] at H
      have LMc6 := Aside0.mk c6
      clear c6
      obtain ⟨y346, hy346⟩ : ∃ y_ : List (S24), y_ = (x4_1 ++ (rd_L11 t342 x5_1)) := ⟨_, rfl⟩
      replace H : (r19_Depths.l0 k1 t342 y346 (wrap64 (x5_1 + 1))) = some r := by first | (rw [hy346]; with_reducible exact H) | (have H2_ := (Option.bind_some _ _).symm.trans H; rw [hy346]; with_reducible exact H2_) | (have H2_ := (Option.bind_some _ _).symm.trans H; with_reducible exact H2_) | with_reducible exact H | (rw [hy346]; exact H) | exact H
      have Ny346 := Aside0.mk hy346
      clear hy346
      have H' := Aside0.mk H
      clear H
      obtain ⟨Ao7, co7, eo7⟩ := Kd.S_slice HO_3.out
      subst eo7
      have p345 : 0 ≤ (x5_1 : Int) := of_decide_eq_true (by first | (with_reducible assumption) | assumption)
      have q345 : x5_1 < (t342.length : Int) := of_decide_eq_true (by first | (with_reducible assumption) | assumption)
      obtain ⟨ad345, A345_0, c345_0, e345, hx345_0, hl345_0, hi345_0⟩ := at_L11 (Kd.S_reads' HO_3.out).2.2 x5_1 p345 q345
      cases e345
      obtain ⟨ce345, hce345, hMe345, hcc345⟩ := Kd.S_get HO_3.out [] x5_1 p345 (by first | exact q345 | exact of_decide_eq_true (by first | (with_reducible assumption) | assumption) | (have e_ := (Kd.S_reads' HO_3.out).1; omega))
      obtain ⟨ve345_0, rfl, ge345_0⟩ := hMe345
      have hv345_0 := hcc345 0 _ rfl
      rw [Nat.add_zero, show ((Kd.slice 24 k24)).sz = 1 from rfl, Nat.mul_one] at hv345_0
      replace hv345_0 := Option.some.inj (hv345_0.symm.trans hx345_0)
      rw [hv345_0] at ge345_0
      have HL345_0 := Aside0.mk (show Kd.R k24 24 _ _ _ _ (rd_L11 t342 x5_1) from ge345_0)
      clear hv345_0 ge345_0
      clear hcc345 hce345
      have HR345_0 := Aside0.mk hi345_0
      have HC345_0 := Aside0.mk hl345_0
      clear hi345_0 hl345_0
      replace p345 := eq_true p345
      replace q345 := eq_true q345
      go_wp2_with (first | ((with_reducible refine gate_builtin (b := .append) (xs := #[.tmp 16, .tmp 20]) rfl ?_); at_builtin; refine Kd.R_append_rows k24 (w0 := w) w.heap.size rfl (.tmp 16) (.tmp 20) 31 24 (.agg #[(.string ⟨#[]⟩), (.string ⟨#[]⟩)]) 32 rfl Tryz.underlying31 info24 rfl (by decide) (by omega) u4 x4_1 (rd_L11 t342 x5_1) _ _ _ (fun _ => True) (fun _ => False) rfl rfl ?aO ?aR (fun _ _ h => h) (fun _ h => h.elim) ?aF ?aB ?aS ?aL ?_; (case aR => repeat (first | exact (by repeat (first | (with_reducible exact HR345_0.out) | (with_reducible refine Kd.C_alloc ?_ _) | (with_reducible refine Kd.C_drewN ?_ _) | (with_reducible refine Kd.C_drew ?_) | exact HR345_0.out)) | (with_reducible refine Kd.C_alloc ?_ _) | (with_reducible refine Kd.C_drewN ?_ _) | (with_reducible refine Kd.C_drew ?_))); (case aB => exact (ba HB)); (case aF => exact (fun _ _ => trivial)); (case aO => exact (ra HO_4)); (case aS => exact (bz HB)); (case aL => have := LMc6.out; omega); intro v347 w8 ho hb hg hat; rw [← Ny346.out] at ho; have n0_ := Aside0.mk (Kd.S_after (ok := (fun _ => True)) (by (with_reducible repeat (first | apply Kd.S_alloc | apply Kd.S_drewN | apply Kd.S_drew)); exact Kd.S_mono HO_3.out (fun _ hk => ⟨trivial, hk⟩)) hg hat); have n1_ := Aside0.mk (Kd.R_after (ok := (fun k_ => some k_ ≠ (.slice (some ad345) t342.length co7 : Value).ownBlock)) (by (with_reducible repeat (first | apply Kd.R_alloc | apply Kd.R_drewN | apply Kd.R_drew)); exact Kd.R_mono HL345_0.out (fun _ hk => ⟨hk.2, hk.1⟩)) hg hat); have n2_ := Aside0.mk (hb); have n3_ := Aside0.mk (ho); revert n0_ n1_ n2_ n3_; clear HO_3 HL345_0 HB HO_4; intro HO_3 HL345_0 HB HO348; clear ho hb hg hat))
      go_roundg k1
      case measure => have := HK1.out; omega
      case rel => exact ⟨(y346), (wrap64 (x5_1 + 1)), (by first | rfl | (simp; done) | (simp [*]; done)), H', ⟨by have := HK1.out; omega⟩, ⟨by (with_reducible repeat (first | apply Kd.S_alloc | apply Kd.S_drewN | apply Kd.S_drew)); exact Kd.S_mono HO_3.out (fun _ hk => hk.2)⟩, ⟨ra HO348⟩, ⟨ba HB⟩⟩
     ·rw [if_neg c6] at H
      exact absurd H (by simp)
    ·rw [if_neg c5] at H
     exact absurd H (by simp)
   ·rw [if_neg c4] at H
    have c4b0 : decide (x5_1 < (t342.length : Int)) = false := decide_eq_false c4
    clear c4
    obtain ⟨t349, A9, H⟩ := bo H
    have H' := Aside0.mk H
    clear H
    obtain ⟨Ao10, co10, eo10⟩ := Kd.S_slice HO_3.out
    subst eo10
    obtain ⟨Ao11, co11, eo11⟩ := Kd.R_slice HO_4.out
    subst eo11
    go_wp2_with (first | ((with_reducible refine gate_callee (f := 49) rfl ?_); refine gl 23 Tryz.func49 #[.slice Ao11 x4_1.length co11] ?_; (with_reducible refine (r05_Set.calls k1 _ _ x4_1 t349 _ ?side1 ?side2 A9.out).mono ?_); (case side1 => repeat (first | exact (Kd.R_reads' HO_4.out).2.2 | (with_reducible refine Kd.C_alloc ?_ _) | (with_reducible refine Kd.C_drewN ?_ _) | (with_reducible refine Kd.C_drew ?_))); (case side2 => exact (Kd.R_reads' HO_4.out).2.1); rintro e w12 ⟨v350, rfl, ho0, hb⟩; refine ⟨_, rfl, ?_⟩; have n0_ := Aside0.mk (Kd.S_elder' (by (with_reducible repeat (first | apply Kd.S_alloc | apply Kd.S_drewN | apply Kd.S_drew)); exact HO_3.out) (Kd.R_base ho0) hb); have n1_ := Aside0.mk (Kd.R_elder' (ra HO_4) (Kd.R_base ho0) hb); have n2_ := Aside0.mk (Kd.R_lower (Kd.R_new' ho0 (Kd.R_lt (ra HO_4))) (bz HB)); have n3_ := bs HB hb; revert n0_ n1_ n2_ n3_; clear HO_3 HO_4 HB; intro HO_3 HO_4 HO351 HB; (try clear hb); (try clear ho0)))
    go_loopg [6, 7] k1 (fun kq v6 v7 w' => ∃ (x6_2 : List (S46)) (x7_2 : Int), v7 = .int .i64 x7_2 ∧ Aside0 (r19_Depths.l1 kq t342 t349 x6_2 x7_2 = some r) ∧ Aside0 (kq ≤ k1) ∧ Aside0 (Kd.S (Kd.slice 24 k24) 31 w' w.heap.size (fun k_ => some k_ ≠ (v350 : Value).ownBlock) (.slice Ao10 t342.length co10) t342) ∧ Aside0 (Kd.R k24 24 w' w.heap.size (fun _ => True) v350 t349) ∧ Aside0 (Kd.R k46 46 w' w.heap.size (fun _ => True) v6 x6_2) ∧ Aside0 (Below w.heap.size w w'))
    case atStart => exact ⟨(([] : List (S46))), (0), (by first | rfl | (simp; done) | (simp [*]; done)), H', ⟨Nat.le_refl _⟩, ⟨by (with_reducible repeat (first | apply Kd.S_alloc | apply Kd.S_drewN | apply Kd.S_drew)); exact Kd.S_mono HO_3.out (fun _ hk => hk.2)⟩, ⟨by (with_reducible repeat (first | apply Kd.R_alloc | apply Kd.R_drewN | apply Kd.R_drew)); exact Kd.R_mono HO351.out (fun _ hk => trivial)⟩, ⟨by first | exact Kd.R_nil _ _ _ _ _ | exact Kd.N_nil _ _ _ _ _ | exact Kd.V_nil _ _ _ _ _ | exact Kd.Q_nil _ _ _ _ _ | exact Kd.S_nil _ _ _ _ _⟩, ⟨ba HB⟩⟩
    case round =>
     clear H'
     try clear c2
     try clear p2
     try clear c3
     try clear p3
     try clear q3
     try clear hx3
     try clear c4
     try clear c4b0
     try clear c5
     try clear c5b0
     try clear c6
     try clear p6
     try clear hx345_0
     try clear p2
     try clear p345
     try clear q345
     obtain ⟨x6_2, x7_2, rfl, HA, HK2, HO_3, HO_4, HO_6, HB⟩ := hrel
     cases gk with
     | zero => exact absurd HA.out (by simp [r19_Depths.l1])
     | succ k2 =>
      have H := HA.out
      clear HA
      simp only [r19_Depths.l1] at H
      by_cases c13 : x7_2 < (t349.length : Int)
      ·rw [if_pos c13] at H
       have c13b0 : decide (x7_2 < (t349.length : Int)) = true := decide_eq_true c13
       clear c13
       by_cases c14 : 0 ≤ x7_2
       ·rw [if_pos c14] at H
        have c14b0 : decide (0 ≤ x7_2) = true := decide_eq_true c14
        clear c14
        obtain ⟨t354, A15, H⟩ := bo H
        by_cases c16 : x6_2.length < 3518437208883
        ·rw [if_pos c16] at H
         have LMc16 := Aside0.mk c16
         clear c16
         obtain ⟨y355, hy355⟩ : ∃ y_ : List (S46), y_ = (x6_2 ++ [(⟨(⟨(rd_T24 t349 x7_2).f0, (rd_T24 t349 x7_2).f1⟩ : S24), t354⟩ : S46)]) := ⟨_, rfl⟩
         replace H : (r19_Depths.l1 k2 t342 t349 y355 (wrap64 (x7_2 + 1))) = some r := by first | (rw [hy355]; with_reducible exact H) | (have H2_ := (Option.bind_some _ _).symm.trans H; rw [hy355]; with_reducible exact H2_) | (have H2_ := (Option.bind_some _ _).symm.trans H; with_reducible exact H2_) | with_reducible exact H | (rw [hy355]; exact H) | exact H
         have Ny355 := Aside0.mk hy355
         clear hy355
         have H' := Aside0.mk H
         clear H
         obtain ⟨Ao17, co17, eo17⟩ := Kd.R_slice HO_4.out
         subst eo17
         try go_wp2
         have n0_ := Aside0.mk (Kd.S_drew HO_3.out)
         have n1_ := Aside0.mk (Kd.R_drew HO_4.out)
         have n2_ := Aside0.mk (Kd.R_drew HO_6.out)
         have n3_ := Aside0.mk (below_drew1 HB.out)
         revert n0_ n1_ n2_ n3_
         clear HO_3 HO_4 HO_6 HB
         intro HO_3 HO_4 HO_6 HB
         have p352 : 0 ≤ (x7_2 : Int) := of_decide_eq_true (by first | (with_reducible assumption) | assumption)
         have q352 : x7_2 < (t349.length : Int) := of_decide_eq_true (by first | (with_reducible assumption) | assumption)
         obtain ⟨ad352, e352, hx352_0, hx352_1⟩ := at_T24 (Kd.R_reads' HO_4.out).2.2 x7_2 p352 q352
         cases e352
         replace p352 := eq_true p352
         replace q352 := eq_true q352
         have p353 : 0 ≤ (x7_2 : Int) := of_decide_eq_true (by first | (with_reducible assumption) | assumption)
         have q353 : x7_2 < (t349.length : Int) := of_decide_eq_true (by first | (with_reducible assumption) | assumption)
         obtain ⟨ad353, e353, hx353_0, hx353_1⟩ := at_T24 (Kd.R_reads' HO_4.out).2.2 x7_2 p353 q353
         obtain rfl : ad352 = ad353 := (by injection e353)
         replace p353 := eq_true p353
         replace q353 := eq_true q353
         refine start_ (n := 15) (S := fun w' => w'.cell? (ad352.add ((x7_2).toNat * 2)) = some (.string ((rd_T24 t349 x7_2).f0)) ∧ w'.cell? ⟨(ad352.add ((x7_2).toNat * 2)).block, (ad352.add ((x7_2).toNat * 2)).off + 1, none⟩ = some (.string ((rd_T24 t349 x7_2).f1)) ∧ w'.cell? (ad352.add ((x7_2).toNat * 2)) = some (.string ((rd_T24 t349 x7_2).f0)) ∧ w'.cell? ⟨(ad352.add ((x7_2).toNat * 2)).block, (ad352.add ((x7_2).toNat * 2)).off + 1, none⟩ = some (.string ((rd_T24 t349 x7_2).f1))) (ds := [12, 13]) #[false, false, false, false, false, false, false, false, false, false, false, false, false, false, false] (by kernel_rfl) rfl rfl ⟨hx352_0, hx352_1, hx353_0, hx353_1⟩ (fun hHeld => ?_); refine with_tabW r19_Depths.tab12 r19_Depths.bits12 (fun HT_ HW_ => ?_)
         generalize wr.drew = w18 at HO_3 HO_4 HO_6 HB hx352_0 hx352_1 hx353_0 hx353_1 hHeld ⊢
         refine pu 0 30 ?_
         refine pu 1 31 ?_
         refine pu 2 32 ?_
         refine pu 3 33 ?_
         refine pu 5 35 ?_
         refine pu 6 36 ?_
         refine pu 7 37 ?_
         refine pu 8 38 ?_
         refine tk 4 34 ?_
         refine tk 9 39 ?_
         refine oq 10 (some 40) fun K hK => ?_
         refine gs Tryz.func25 #[.slice Ao10 t342.length co10, .agg #[.string ((rd_T24 t349 x7_2).f0), .string ((rd_T24 t349 x7_2).f1)]] ?_
         with_reducible refine (r19_Depth.calls k2 _ _ t342 ((rd_T24 t349 x7_2).f0) ((rd_T24 t349 x7_2).f1) t354 _ ?side1 ?side2 A15.out).mono ?_
         (case side1 => repeat (first | exact (Kd.S_reads' HO_3.out).2.2 | (with_reducible refine Kd.C_alloc ?_ _) | (with_reducible refine Kd.C_drewN ?_ _) | (with_reducible refine Kd.C_drew ?_)))
         (case side2 => exact (Kd.S_reads' HO_3.out).2.1)
         rintro e w19 ⟨rfl, hb⟩
         have HS0_ := (hb.cell (World.block_lt_of_cell? _ _ (hHeld.1))).trans (hHeld.1)
         have HS1_ := (hb.cell (World.block_lt_of_cell? _ _ (hHeld.2.1))).trans (hHeld.2.1)
         have HS2_ := (hb.cell (World.block_lt_of_cell? _ _ (hHeld.2.2.1))).trans (hHeld.2.2.1)
         have HS3_ := (hb.cell (World.block_lt_of_cell? _ _ (hHeld.2.2.2))).trans (hHeld.2.2.2)
         refine ⟨_, rfl, ?_⟩
         have n0_ := Aside0.mk (Kd.S_below (by (with_reducible repeat (first | apply Kd.S_alloc | apply Kd.S_drewN | apply Kd.S_drew)); exact HO_3.out) hb)
         have n1_ := rb HO_4 hb
         have n2_ := rb HO_6 hb
         have n3_ := bs HB hb
         revert n0_ n1_ n2_ n3_
         clear HO_3 HO_4 HO_6 HB
         intro HO_3 HO_4 HO_6 HB
         try clear hb
         refine hK.out _ _ ⟨HS0_, HS1_, HS2_, HS3_⟩ (fun hHeld => ?_)
         clear hK K
         refine nm ?_
         refine pu 11 41 ?_
         refine lq 12 (some 42) fun K hK => ?_
         refine value_ (w1 := ?_) (v := ?_) (by rfl) rfl ?_ ?_
         rotate_left 2
         ·go_simp
          constructor
          ·rfl
          ·rfl
         refine hK.out _ _ ?_
         clear hK K
         refine nm ?_
         refine lq 13 (some 43) fun K hK => ?_
         refine Kd.R_append_step k46 (w0 := w) w.heap.size (by rfl) (.tmp 30) (.tmp 42) 27 46 (.agg #[(.string ⟨#[]⟩), (.string ⟨#[]⟩), (.int .i64 0)]) 40 rfl Tryz.underlying27 info46 rfl (by decide) (by omega) u6 x6_2 (⟨(⟨(rd_T24 t349 x7_2).f0, (rd_T24 t349 x7_2).f1⟩ : S24), t354⟩ : S46) [.string ((rd_T24 t349 x7_2).f0), .string ((rd_T24 t349 x7_2).f1), .int .i64 t354] (fun _ => True) (fun _ => False) rfl rfl ?aP (fun _ hk => hk.elim) ?aF ?aO ?aB ?aS ?aL ?_
         (case aP => exact k46_mkM _ _ _ (⟨(⟨(rd_T24 t349 x7_2).f0, (rd_T24 t349 x7_2).f1⟩ : S24), t354⟩ : S46))
         (case aB => exact (ba HB))
         (case aF => exact (fun _ _ => trivial))
         (case aO => exact (ra HO_6))
         (case aS => exact (bz HB))
         (case aL => have := LMc16.out; omega)
         intro v356 w20 ho hb hg hat
         rw [← Ny355.out] at ho
         have n0_ := Aside0.mk (Kd.S_over' (by (with_reducible repeat (first | apply Kd.S_alloc | apply Kd.S_drewN | apply Kd.S_drew)); exact HO_3.out) (Kd.R_typed (ra HO_6)) (by decide) hg)
         have n1_ := Aside0.mk (Kd.R_over' (ra HO_4) (Kd.R_typed (ra HO_6)) (by decide) hg)
         have n2_ := Aside0.mk (hb)
         have n3_ := Aside0.mk (ho)
         revert n0_ n1_ n2_ n3_
         clear HO_3 HO_4 HB HO_6
         intro HO_3 HO_4 HB HO357
         clear ho hb hg hat
         refine hK.out _ _ ?_
         clear hK K
         refine nm ?_
         refine pu 14 6 ?_
         refine dq ?_
         try go_wp2
         go_roundg k2
         case measure => have := HK1.out; have := HK2.out; omega
         case rel => exact ⟨(y355), (wrap64 (x7_2 + 1)), (by first | rfl | (simp; done) | (simp [*]; done)), H', ⟨by have := HK1.out; have := HK2.out; omega⟩, ⟨by (with_reducible repeat (first | apply Kd.S_alloc | apply Kd.S_drewN | apply Kd.S_drew)); exact HO_3.out⟩, ⟨ra HO_4⟩, ⟨ra HO357⟩, ⟨ba HB⟩⟩
        ·rw [if_neg c16] at H
         exact absurd H (by simp)
       ·rw [if_neg c14] at H
        exact absurd H (by simp)
      ·rw [if_neg c13] at H
       have c13b0 : decide (x7_2 < (t349.length : Int)) = false := decide_eq_false c13
       clear c13
       obtain rfl := Option.some.inj H
       obtain ⟨Ao21, co21, eo21⟩ := Kd.R_slice HO_4.out
       subst eo21
       go_wp2
       go_ret
       exact ⟨_, by first | rfl | (simp [errW_none, errW_some] <;> rfl) | (simp [*, errW_none, errW_some] <;> rfl), by (with_reducible repeat (first | apply Kd.R_alloc | apply Kd.R_drewN | apply Kd.R_drew)); exact HO_6.out, ba HB⟩
end Go.Proofs.YtjfcmkddeglghaaGreatDoor.G
end
section
namespace Go.Proofs.YtjfcmkddeglghaaGreatDoor.G
open Go.RowKit Go.Proofs.YtjfcmkddeglghaaGreatDoorW.PrintWords Go.Proofs.YtjfcmkddeglghaaGreatDoorW.PrintLast Go.Proofs.YtjfcmkddeglghaaGreatDoorW.PrintMore
attribute [local go_sem] max2_int min2_int max_two min_two max_three min_three max_four min_four
set_option linter.unusedVariables false
set_option linter.unusedSimpArgs false
attribute [local go_sem high] eqA24
def r19_Has.l0 : Nat → List (S49) → Int → ByteArray → ByteArray → ByteArray → ByteArray → Option (Bool)
 | 0, _, _, _, _, _, _ => none
 | k + 1, x0, x7, x361000, x361001, x362000, x362001 => if x7 < (x0.length : Int) then (if 0 ≤ x7 then (if ((((rd_T49 x0 x7).f0.f0).toList) == x361000.toList && ((((rd_T49 x0 x7).f0.f1).toList) == x361001.toList)) = true then (if ((((rd_T49 x0 x7).f1.f0).toList) == x362000.toList && ((((rd_T49 x0 x7).f1.f1).toList) == x362001.toList)) = true then (some true) else (r19_Has.l0 k x0 (wrap64 (x7 + 1)) x361000 x361001 x362000 x362001)) else (r19_Has.l0 k x0 (wrap64 (x7 + 1)) x361000 x361001 x362000 x362001)) else (none)) else (some false)
def r19_Has.f (k : Nat) (l0 : List (S49)) (a1_0 : ByteArray) (a1_1 : ByteArray) (a2_0 : ByteArray) (a2_1 : ByteArray) : Option (Bool) := r19_Has.l0 k l0 0 a1_0 a1_1 a2_0 a2_1
theorem r19_Has.mono_l : ∀ k, (∀ y0 y1 y2 y3 y4 y5, LeO (r19_Has.l0 k y0 y1 y2 y3 y4 y5) (r19_Has.l0 (k + 1) y0 y1 y2 y3 y4 y5))
 | 0 => fun _ _ _ _ _ _ r h => by simp [r19_Has.l0] at h
 | k + 1 => by
  have ih0 := r19_Has.mono_l k
  ·intro y0 y1 y2 y3 y4 y5
   unfold r19_Has.l0
   repeat' first
   | (with_reducible exact ih0 _ _ _ _ _ _)
   | (with_reducible exact LeO.refl _)
   | (with_reducible exact LeO.none _)
   | (with_reducible refine LeO.ite ?_ ?_)
   | (with_reducible refine LeO.bind ?_ (fun _ => ?_))
   | exact ih0 _ _ _ _ _ _
   | exact LeO.none _
   | refine LeO.ite ?_ ?_
   | refine LeO.bind ?_ (fun _ => ?_)
theorem r19_Has.mono : ∀ a0 a1 a2 a3 a4 k, LeO (r19_Has.f k a0 a1 a2 a3 a4) (r19_Has.f (k + 1) a0 a1 a2 a3 a4) := by
 intro a0 a1 a2 a3 a4 k
 have ih0 := r19_Has.mono_l k
 unfold r19_Has.f
 repeat' first
   | (with_reducible exact ih0 _ _ _ _ _ _)
   | (with_reducible exact LeO.refl _)
   | (with_reducible exact LeO.none _)
   | (with_reducible refine LeO.ite ?_ ?_)
   | (with_reducible refine LeO.bind ?_ (fun _ => ?_))
   | exact ih0 _ _ _ _ _ _
   | exact LeO.none _
   | refine LeO.ite ?_ ?_
   | refine LeO.bind ?_ (fun _ => ?_)
set_option maxHeartbeats 8000000 in
set_option maxRecDepth 100000 in
theorem r19_Has.calls (k : Nat) (A0 : Option Addr) (c0 : Nat) (l0 : List (S49)) (a1_0 : ByteArray) (a1_1 : ByteArray) (a2_0 : ByteArray) (a2_1 : ByteArray) (r : Bool) (w : World) (hr0 : Kd.C k49 w A0 l0.length l0) (hc0 : l0.length ≤ c0) (h : r19_Has.f k l0 a1_0 a1_1 a2_0 a2_1 = some r) :
  Calls Tryz.prog 81 #[.slice A0 l0.length c0, .agg #[.string a1_0, .string a1_1], .agg #[.string a2_0, .string a2_1]] w fun e w' => e = .returned (.bool r) ∧ Below w.heap.size w w' := by
 have hu24 := Tryz.underlying24
 have HR0 := Aside0.mk hr0
 have HC0 := Aside0.mk hc0
 clear hr0 hc0
 have HB := Aside0.mk (Below.refl w.heap.size w)
 have H : (r19_Has.l0 k l0 0 a1_0 a1_1 a2_0 a2_1) = some r := h
 clear h
 have H' := Aside0.mk H
 clear H
 go_enter Tryz.func81, Tryz.ntmps81
 go_wp2_with (first | ((with_reducible refine gate_dst (N := 4) rfl ?_); refine box_event ?hg (N := 4) ?hd (cs := #[.string a1_0, .string a1_1]) (t := 24) ?hr ?_; (case hd => rfl); (case hg => rfl); (case hr => first | (go_simp; done) | (go_simp; rfl)); intro gb360 hg w4 hbox hb; have n0_ := bs HB hb; have n1_ := Aside0.mk (hbox); have n2_ := gz hg HB; have n3_ := gz hg HB; revert n0_ n1_ n2_ n3_; clear HB; intro HB BK360 GW360 GE360; clear hb hbox hg) | ((with_reducible refine gate_dst (N := 5) rfl ?_); refine box_event ?hg (N := 5) ?hd (cs := #[.string a2_0, .string a2_1]) (t := 24) ?hr ?_; (case hd => rfl); (case hg => rfl); (case hr => first | (go_simp; done) | (go_simp; rfl)); intro gb361 hg w5 hbox hb; have n0_ := bb BK360 hb; have n1_ := bs HB hb; have n2_ := Aside0.mk (hbox); have n3_ := gz hg HB; have n4_ := gz hg HB; have n5_ := Aside0.mk ((by rw [hg]; exact Nat.ne_of_lt (blk_lt (g := gb360) (o := .cells #[.string a1_0, .string a1_1] 24 (0, 0)) (bk BK360)) : gb360 ≠ gb361)); have n6_ := Aside0.mk ((by rw [hg]; exact Nat.ne_of_gt (blk_lt (g := gb360) (o := .cells #[.string a1_0, .string a1_1] 24 (0, 0)) (bk BK360)) : gb361 ≠ gb360)); revert n0_ n1_ n2_ n3_ n4_ n5_ n6_; clear BK360 HB; intro BK360 HB BK361 GW361 GE361 NB360_361 NB361_360; clear hb hbox hg))
 repeat (go_quiet (first | ((with_reducible refine gate_dst (N := 4) rfl ?_); refine box_event ?hg (N := 4) ?hd (cs := #[.string a1_0, .string a1_1]) (t := 24) ?hr ?_; (case hd => rfl); (case hg => rfl); (case hr => first | (go_simp; done) | (go_simp; rfl)); intro gb360 hg w4 hbox hb; have n0_ := bs HB hb; have n1_ := Aside0.mk (hbox); have n2_ := gz hg HB; have n3_ := gz hg HB; revert n0_ n1_ n2_ n3_; clear HB; intro HB BK360 GW360 GE360; clear hb hbox hg) | ((with_reducible refine gate_dst (N := 5) rfl ?_); refine box_event ?hg (N := 5) ?hd (cs := #[.string a2_0, .string a2_1]) (t := 24) ?hr ?_; (case hd => rfl); (case hg => rfl); (case hr => first | (go_simp; done) | (go_simp; rfl)); intro gb361 hg w5 hbox hb; have n0_ := bb BK360 hb; have n1_ := bs HB hb; have n2_ := Aside0.mk (hbox); have n3_ := gz hg HB; have n4_ := gz hg HB; have n5_ := Aside0.mk ((by rw [hg]; exact Nat.ne_of_lt (blk_lt (g := gb360) (o := .cells #[.string a1_0, .string a1_1] 24 (0, 0)) (bk BK360)) : gb360 ≠ gb361)); have n6_ := Aside0.mk ((by rw [hg]; exact Nat.ne_of_gt (blk_lt (g := gb360) (o := .cells #[.string a1_0, .string a1_1] 24 (0, 0)) (bk BK360)) : gb361 ≠ gb360)); revert n0_ n1_ n2_ n3_ n4_ n5_ n6_; clear BK360 HB; intro BK360 HB BK361 GW361 GE361 NB360_361 NB361_360; clear hb hbox hg)); try go_wp2_with (first | ((with_reducible refine gate_dst (N := 4) rfl ?_); refine box_event ?hg (N := 4) ?hd (cs := #[.string a1_0, .string a1_1]) (t := 24) ?hr ?_; (case hd => rfl); (case hg => rfl); (case hr => first | (go_simp; done) | (go_simp; rfl)); intro gb360 hg w4 hbox hb; have n0_ := bs HB hb; have n1_ := Aside0.mk (hbox); have n2_ := gz hg HB; have n3_ := gz hg HB; revert n0_ n1_ n2_ n3_; clear HB; intro HB BK360 GW360 GE360; clear hb hbox hg) | ((with_reducible refine gate_dst (N := 5) rfl ?_); refine box_event ?hg (N := 5) ?hd (cs := #[.string a2_0, .string a2_1]) (t := 24) ?hr ?_; (case hd => rfl); (case hg => rfl); (case hr => first | (go_simp; done) | (go_simp; rfl)); intro gb361 hg w5 hbox hb; have n0_ := bb BK360 hb; have n1_ := bs HB hb; have n2_ := Aside0.mk (hbox); have n3_ := gz hg HB; have n4_ := gz hg HB; have n5_ := Aside0.mk ((by rw [hg]; exact Nat.ne_of_lt (blk_lt (g := gb360) (o := .cells #[.string a1_0, .string a1_1] 24 (0, 0)) (bk BK360)) : gb360 ≠ gb361)); have n6_ := Aside0.mk ((by rw [hg]; exact Nat.ne_of_gt (blk_lt (g := gb360) (o := .cells #[.string a1_0, .string a1_1] 24 (0, 0)) (bk BK360)) : gb361 ≠ gb360)); revert n0_ n1_ n2_ n3_ n4_ n5_ n6_; clear BK360 HB; intro BK360 HB BK361 GW361 GE361 NB360_361 NB361_360; clear hb hbox hg)))
 go_loopg [7] k (fun kq v7 w' => ∃ (x7_1 : Int), v7 = .int .i64 x7_1 ∧ Aside0 (r19_Has.l0 kq l0 x7_1 a1_0 a1_1 a2_0 a2_1 = some r) ∧ Aside0 (kq ≤ k) ∧ Aside0 (w'.heap[gb360]? = some (.cells #[.string a1_0, .string a1_1] 24 (0, 0))) ∧ Aside0 (w'.heap[gb361]? = some (.cells #[.string a2_0, .string a2_1] 24 (0, 0))) ∧ Aside0 (Below w.heap.size w w'))
 case atStart => exact ⟨(0), (by first | rfl | (simp; done) | (simp [*]; done)), H', ⟨Nat.le_refl _⟩, ⟨by (with_reducible repeat (first | refine blk_drewN ?_ _ | refine blk_drew ?_ | refine blk_alloc ?_ _)); exact BK360.out⟩, ⟨by (with_reducible repeat (first | refine blk_drewN ?_ _ | refine blk_drew ?_ | refine blk_alloc ?_ _)); exact BK361.out⟩, ⟨ba HB⟩⟩
 case round =>
  clear H'
  try clear p2
  obtain ⟨x7_1, rfl, HA, HK1, BK360, BK361, HB⟩ := hrel
  cases gk with
  | zero => exact absurd HA.out (by simp [r19_Has.l0])
  | succ k1 =>
   have H := HA.out
   clear HA
   simp only [r19_Has.l0] at H
   by_cases c6 : x7_1 < (l0.length : Int)
   ·rw [if_pos c6] at H
    have c6b0 : decide (x7_1 < (l0.length : Int)) = true := decide_eq_true c6
    clear c6
    by_cases c7 : 0 ≤ x7_1
    ·rw [if_pos c7] at H
     have c7b0 : decide (0 ≤ x7_1) = true := decide_eq_true c7
     clear c7
     by_cases c8 : ((((rd_T49 l0 x7_1).f0.f0).toList) == a1_0.toList && ((((rd_T49 l0 x7_1).f0.f1).toList) == a1_1.toList)) = true
     ·rw [if_pos c8] at H
      have c8b0 : ((((rd_T49 l0 x7_1).f0.f0).toList) == a1_0.toList && ((((rd_T49 l0 x7_1).f0.f1).toList) == a1_1.toList)) = true := c8
      (try (have c8b1 : decide ((((rd_T49 l0 x7_1).f0.f0).toList) = a1_0.toList && ((((rd_T49 l0 x7_1).f0.f1).toList) == a1_1.toList)) = true := by simpa using c8))
      (try (have c8b2 : ((((rd_T49 l0 x7_1).f0.f0).toList) == a1_0.toList && ((((rd_T49 l0 x7_1).f0.f1).toList) == a1_1.toList)) = true := by simpa using c8))
      clear c8
      by_cases c9 : ((((rd_T49 l0 x7_1).f1.f0).toList) == a2_0.toList && ((((rd_T49 l0 x7_1).f1.f1).toList) == a2_1.toList)) = true
      ·rw [if_pos c9] at H
       have c9b0 : ((((rd_T49 l0 x7_1).f1.f0).toList) == a2_0.toList && ((((rd_T49 l0 x7_1).f1.f1).toList) == a2_1.toList)) = true := c9
       (try (have c9b1 : decide ((((rd_T49 l0 x7_1).f1.f0).toList) = a2_0.toList && ((((rd_T49 l0 x7_1).f1.f1).toList) == a2_1.toList)) = true := by simpa using c9))
       (try (have c9b2 : ((((rd_T49 l0 x7_1).f1.f0).toList) == a2_0.toList && ((((rd_T49 l0 x7_1).f1.f1).toList) == a2_1.toList)) = true := by simpa using c9))
       clear c9
       obtain rfl := Option.some.inj H
       have p362 : 0 ≤ (x7_1 : Int) := of_decide_eq_true (by first | (with_reducible assumption) | assumption)
       have q362 : x7_1 < (l0.length : Int) := of_decide_eq_true (by first | (with_reducible assumption) | assumption)
       obtain ⟨ad362, e362, hx362_0, hx362_1, hx362_2, hx362_3⟩ := at_T49 HR0.out x7_1 p362 q362
       cases e362
       replace hx362_0 := (HB.out.cell (World.block_lt_of_cell? w _ hx362_0)).trans hx362_0
       replace hx362_1 := (HB.out.cell (World.block_lt_of_cell? w _ hx362_1)).trans hx362_1
       replace hx362_2 := (HB.out.cell (World.block_lt_of_cell? w _ hx362_2)).trans hx362_2
       replace hx362_3 := (HB.out.cell (World.block_lt_of_cell? w _ hx362_3)).trans hx362_3
       replace p362 := eq_true p362
       replace q362 := eq_true q362
       have hnb10 := NB360_361.out
       have hnc10 := NB361_360.out
       have hcz11_0 := bc BK360 0
       have hcz11_1 := bc BK360 1
       have hfz11_0 := bf BK360 0
       have hfz11_1 := bf BK360 1
       have p363 : 0 ≤ (x7_1 : Int) := of_decide_eq_true (by first | (with_reducible assumption) | assumption)
       have q363 : x7_1 < (l0.length : Int) := of_decide_eq_true (by first | (with_reducible assumption) | assumption)
       obtain ⟨ad363, e363, hx363_0, hx363_1, hx363_2, hx363_3⟩ := at_T49 HR0.out x7_1 p363 q363
       obtain rfl : ad362 = ad363 := (by injection e363)
       replace hx363_0 := (HB.out.cell (World.block_lt_of_cell? w _ hx363_0)).trans hx363_0
       replace hx363_1 := (HB.out.cell (World.block_lt_of_cell? w _ hx363_1)).trans hx363_1
       replace hx363_2 := (HB.out.cell (World.block_lt_of_cell? w _ hx363_2)).trans hx363_2
       replace hx363_3 := (HB.out.cell (World.block_lt_of_cell? w _ hx363_3)).trans hx363_3
       replace p363 := eq_true p363
       replace q363 := eq_true q363
       have hcz12_0 := bc BK361 0
       have hcz12_1 := bc BK361 1
       have hfz12_0 := bf BK361 0
       have hfz12_1 := bf BK361 1
       go_wp2
       repeat (go_quiet (fail); try go_wp2)
       go_ret
       exact ⟨by first | rfl | (simp [errW_none, errW_some] <;> rfl) | (simp [*, errW_none, errW_some] <;> rfl), ba HB⟩
      ·rw [if_neg c9] at H
       have c9b0 : ((((rd_T49 l0 x7_1).f1.f0).toList) == a2_0.toList && ((((rd_T49 l0 x7_1).f1.f1).toList) == a2_1.toList)) = false := by simpa using c9
       (try (have c9b1 : decide ((((rd_T49 l0 x7_1).f1.f0).toList) = a2_0.toList && ((((rd_T49 l0 x7_1).f1.f1).toList) == a2_1.toList)) = false := by simpa using c9))
       (try (have c9b2 : ((((rd_T49 l0 x7_1).f1.f0).toList) == a2_0.toList && ((((rd_T49 l0 x7_1).f1.f1).toList) == a2_1.toList)) = false := by simpa using c9))
       (try (have c9b3 : ¬ ((((rd_T49 l0 x7_1).f1.f0).toList) = a2_0.toList && ((((rd_T49 l0 x7_1).f1.f1).toList) == a2_1.toList)) := by simpa using c9))
       clear c9
       have H' := Aside0.mk H
       clear H
       have p362 : 0 ≤ (x7_1 : Int) := of_decide_eq_true (by first | (with_reducible assumption) | assumption)
       have q362 : x7_1 < (l0.length : Int) := of_decide_eq_true (by first | (with_reducible assumption) | assumption)
       obtain ⟨ad362, e362, hx362_0, hx362_1, hx362_2, hx362_3⟩ := at_T49 HR0.out x7_1 p362 q362
       cases e362
       replace hx362_0 := (HB.out.cell (World.block_lt_of_cell? w _ hx362_0)).trans hx362_0
       replace hx362_1 := (HB.out.cell (World.block_lt_of_cell? w _ hx362_1)).trans hx362_1
       replace hx362_2 := (HB.out.cell (World.block_lt_of_cell? w _ hx362_2)).trans hx362_2
       replace hx362_3 := (HB.out.cell (World.block_lt_of_cell? w _ hx362_3)).trans hx362_3
       replace p362 := eq_true p362
       replace q362 := eq_true q362
       have hnb13 := NB360_361.out
       have hnc13 := NB361_360.out
       have hcz14_0 := bc BK360 0
       have hcz14_1 := bc BK360 1
       have hfz14_0 := bf BK360 0
       have hfz14_1 := bf BK360 1
       have p363 : 0 ≤ (x7_1 : Int) := of_decide_eq_true (by first | (with_reducible assumption) | assumption)
       have q363 : x7_1 < (l0.length : Int) := of_decide_eq_true (by first | (with_reducible assumption) | assumption)
       obtain ⟨ad363, e363, hx363_0, hx363_1, hx363_2, hx363_3⟩ := at_T49 HR0.out x7_1 p363 q363
       obtain rfl : ad362 = ad363 := (by injection e363)
       replace hx363_0 := (HB.out.cell (World.block_lt_of_cell? w _ hx363_0)).trans hx363_0
       replace hx363_1 := (HB.out.cell (World.block_lt_of_cell? w _ hx363_1)).trans hx363_1
       replace hx363_2 := (HB.out.cell (World.block_lt_of_cell? w _ hx363_2)).trans hx363_2
       replace hx363_3 := (HB.out.cell (World.block_lt_of_cell? w _ hx363_3)).trans hx363_3
       replace p363 := eq_true p363
       replace q363 := eq_true q363
       have hcz15_0 := bc BK361 0
       have hcz15_1 := bc BK361 1
       have hfz15_0 := bf BK361 0
       have hfz15_1 := bf BK361 1
       go_wp2
       repeat (go_quiet (fail); try go_wp2)
       go_roundg k1
       case measure => have := HK1.out; omega
       case rel => exact ⟨(wrap64 (x7_1 + 1)), (by first | rfl | (simp; done) | (simp [*]; done)), H', ⟨by have := HK1.out; omega⟩, ⟨by (with_reducible repeat (first | refine blk_drewN ?_ _ | refine blk_drew ?_ | refine blk_alloc ?_ _)); exact BK360.out⟩, ⟨by (with_reducible repeat (first | refine blk_drewN ?_ _ | refine blk_drew ?_ | refine blk_alloc ?_ _)); exact BK361.out⟩, ⟨ba HB⟩⟩
     ·rw [if_neg c8] at H
      have c8b0 : ((((rd_T49 l0 x7_1).f0.f0).toList) == a1_0.toList && ((((rd_T49 l0 x7_1).f0.f1).toList) == a1_1.toList)) = false := by simpa using c8
      (try (have c8b1 : decide ((((rd_T49 l0 x7_1).f0.f0).toList) = a1_0.toList && ((((rd_T49 l0 x7_1).f0.f1).toList) == a1_1.toList)) = false := by simpa using c8))
      (try (have c8b2 : ((((rd_T49 l0 x7_1).f0.f0).toList) == a1_0.toList && ((((rd_T49 l0 x7_1).f0.f1).toList) == a1_1.toList)) = false := by simpa using c8))
      (try (have c8b3 : ¬ ((((rd_T49 l0 x7_1).f0.f0).toList) = a1_0.toList && ((((rd_T49 l0 x7_1).f0.f1).toList) == a1_1.toList)) := by simpa using c8))
      clear c8
      have H' := Aside0.mk H
      clear H
      have p362 : 0 ≤ (x7_1 : Int) := of_decide_eq_true (by first | (with_reducible assumption) | assumption)
      have q362 : x7_1 < (l0.length : Int) := of_decide_eq_true (by first | (with_reducible assumption) | assumption)
      obtain ⟨ad362, e362, hx362_0, hx362_1, hx362_2, hx362_3⟩ := at_T49 HR0.out x7_1 p362 q362
      cases e362
      replace hx362_0 := (HB.out.cell (World.block_lt_of_cell? w _ hx362_0)).trans hx362_0
      replace hx362_1 := (HB.out.cell (World.block_lt_of_cell? w _ hx362_1)).trans hx362_1
      replace hx362_2 := (HB.out.cell (World.block_lt_of_cell? w _ hx362_2)).trans hx362_2
      replace hx362_3 := (HB.out.cell (World.block_lt_of_cell? w _ hx362_3)).trans hx362_3
      replace p362 := eq_true p362
      replace q362 := eq_true q362
      have hnb16 := NB360_361.out
      have hnc16 := NB361_360.out
      have hcz17_0 := bc BK360 0
      have hcz17_1 := bc BK360 1
      have hfz17_0 := bf BK360 0
      have hfz17_1 := bf BK360 1
      go_wp2
      repeat (go_quiet (fail); try go_wp2)
      go_roundg k1
      case measure => have := HK1.out; omega
      case rel => exact ⟨(wrap64 (x7_1 + 1)), (by first | rfl | (simp; done) | (simp [*]; done)), H', ⟨by have := HK1.out; omega⟩, ⟨by (with_reducible repeat (first | refine blk_drewN ?_ _ | refine blk_drew ?_ | refine blk_alloc ?_ _)); exact BK360.out⟩, ⟨by (with_reducible repeat (first | refine blk_drewN ?_ _ | refine blk_drew ?_ | refine blk_alloc ?_ _)); exact BK361.out⟩, ⟨ba HB⟩⟩
    ·rw [if_neg c7] at H
     exact absurd H (by simp)
   ·rw [if_neg c6] at H
    have c6b0 : decide (x7_1 < (l0.length : Int)) = false := decide_eq_false c6
    clear c6
    obtain rfl := Option.some.inj H
    go_wp2
    repeat (go_quiet (fail); try go_wp2)
    go_ret
    exact ⟨by first | rfl | (simp [errW_none, errW_some] <;> rfl) | (simp [*, errW_none, errW_some] <;> rfl), ba HB⟩
end Go.Proofs.YtjfcmkddeglghaaGreatDoor.G
end
section
namespace Go.Proofs.YtjfcmkddeglghaaGreatDoor.G
open Go.RowKit Go.Proofs.YtjfcmkddeglghaaGreatDoorW.PrintWords Go.Proofs.YtjfcmkddeglghaaGreatDoorW.PrintLast Go.Proofs.YtjfcmkddeglghaaGreatDoorW.PrintMore
attribute [local go_sem] max2_int min2_int max_two min_two max_three min_three max_four min_four
set_option linter.unusedVariables false
set_option linter.unusedSimpArgs false
mutual
def r19_Chain.l0 : Nat → List (S49) → List (List (S24)) → List (S24) → Int → ByteArray → ByteArray → Option ((List (S24)))
 | 0, _, _, _, _, _, _ => none
 | k + 1, x0, x1, x8, x9, x365000, x365001 => if x9 < (x8.length : Int) then (if 0 ≤ x9 then ((r19_Has.f k x0 ((rd_T24 x8 x9).f0) ((rd_T24 x8 x9).f1) x365000 x365001).bind fun t371 => (if t371 = true then ((r19_Chain.f k x0 x1 ((rd_T24 x8 x9).f0) ((rd_T24 x8 x9).f1)).bind fun t373 => ((some (([(⟨x365000, x365001⟩ : S24)] : List (S24)) : List (S24))).bind fun y376 => (if t373.length + y376.length < 4398046511104 then (some (t373 ++ y376)) else (none)))) else (r19_Chain.l0 k x0 x1 x8 (wrap64 (x9 + 1)) x365000 x365001))) else (none)) else (some ([] : List (S24)))
def r19_Chain.f : Nat → List (S49) → List (List (S24)) → ByteArray → ByteArray → Option ((List (S24)))
 | 0, _, _, _, _ => none
 | k + 1, l0, l1, a2_0, a2_1 => (r19_Depth.f k l1 a2_0 a2_1).bind fun t365 => (if t365 ≤ 1 then (some (([(⟨a2_0, a2_1⟩ : S24)] : List (S24)))) else (if 0 ≤ (wrap64 (t365 - 2)) then (if (wrap64 (t365 - 2)) < (l1.length : Int) then (r19_Chain.l0 k l0 l1 (rd_L11 l1 (wrap64 (t365 - 2))) 0 a2_0 a2_1) else (none)) else (none)))
end
theorem r19_Chain.mono_l : ∀ k, (∀ y0 y1 y2 y3, LeO (r19_Chain.f k y0 y1 y2 y3) (r19_Chain.f (k + 1) y0 y1 y2 y3)) ∧ (∀ y0 y1 y2 y3 y4 y5, LeO (r19_Chain.l0 k y0 y1 y2 y3 y4 y5) (r19_Chain.l0 (k + 1) y0 y1 y2 y3 y4 y5))
 | 0 => ⟨fun _ _ _ _ r h => by simp [r19_Chain.f] at h, fun _ _ _ _ _ _ r h => by simp [r19_Chain.l0] at h⟩
 | k + 1 => by
  obtain ⟨ih0, ih1⟩ := r19_Chain.mono_l k
  refine ⟨?_, ?_⟩
  ·intro y0 y1 y2 y3
   unfold r19_Chain.f
   repeat' first
   | (with_reducible exact ih0 _ _ _ _)
   | (with_reducible exact ih1 _ _ _ _ _ _)
   | (with_reducible exact r19_Depth.mono _ _ _ _)
   | (with_reducible exact r19_Has.mono _ _ _ _ _ _)
   | (with_reducible exact LeO.refl _)
   | (with_reducible exact LeO.none _)
   | (with_reducible refine LeO.ite ?_ ?_)
   | (with_reducible refine LeO.bind ?_ (fun _ => ?_))
   | exact ih0 _ _ _ _
   | exact ih1 _ _ _ _ _ _
   | exact r19_Depth.mono _ _ _ _
   | exact r19_Has.mono _ _ _ _ _ _
   | exact LeO.none _
   | refine LeO.ite ?_ ?_
   | refine LeO.bind ?_ (fun _ => ?_)
  ·intro y0 y1 y2 y3 y4 y5
   unfold r19_Chain.l0
   repeat' first
   | (with_reducible exact ih0 _ _ _ _)
   | (with_reducible exact ih1 _ _ _ _ _ _)
   | (with_reducible exact r19_Depth.mono _ _ _ _)
   | (with_reducible exact r19_Has.mono _ _ _ _ _ _)
   | (with_reducible exact LeO.refl _)
   | (with_reducible exact LeO.none _)
   | (with_reducible refine LeO.ite ?_ ?_)
   | (with_reducible refine LeO.bind ?_ (fun _ => ?_))
   | exact ih0 _ _ _ _
   | exact ih1 _ _ _ _ _ _
   | exact r19_Depth.mono _ _ _ _
   | exact r19_Has.mono _ _ _ _ _ _
   | exact LeO.none _
   | refine LeO.ite ?_ ?_
   | refine LeO.bind ?_ (fun _ => ?_)
theorem r19_Chain.mono : ∀ a0 a1 a2 a3 k, LeO (r19_Chain.f k a0 a1 a2 a3) (r19_Chain.f (k + 1) a0 a1 a2 a3) := by
 intro a0 a1 a2 a3 k
 obtain ⟨ih0, ih1⟩ := r19_Chain.mono_l k
 exact ih0 a0 a1 a2 a3
def r19_Chain.T9 : Bool × List (List Nat × List Nat) := (true, [([], []), ([], []), ([], []), ([], []), ([2, 3], [2, 3]), ([4], [4]), ([0, 1, 5], [0, 1, 5]), ([], []), ([7], [7]), ([6, 8, 6], [6, 8]), ([9, 9, 0, 1, 2, 3, 4, 5, 6, 7, 8, 9], [9])])
def r19_Chain.B9 : List Nat := [0, 0, 0, 0, 12, 28, 63, 0, 128, 511, 1023]
theorem r19_Chain.tab9 : rtab .any (opsOf Tryz.f27 9) = r19_Chain.T9 := by kernel_rfl
theorem r19_Chain.bits9 : waitsOk r19_Chain.T9.2 r19_Chain.B9 = true := by kernel_rfl
set_option maxHeartbeats 8000000 in
set_option maxRecDepth 100000 in
theorem r19_Chain.calls (k : Nat) : ∀ (A0 : Option Addr) (c0 : Nat) (l0 : List (S49)) (A1 : Option Addr) (c1 : Nat) (l1 : List (List (S24))) (a2_0 : ByteArray) (a2_1 : ByteArray) (r : List (S24)) (w : World) (hr0 : Kd.C k49 w A0 l0.length l0) (hc0 : l0.length ≤ c0) (hr1 : Kd.C (Kd.slice 24 k24) w A1 l1.length l1) (hc1 : l1.length ≤ c1) (h : r19_Chain.f k l0 l1 a2_0 a2_1 = some r),
  Calls Tryz.prog 27 #[.slice A0 l0.length c0, .slice A1 l1.length c1, .agg #[.string a2_0, .string a2_1]] w fun e w' => ∃ v0_ : Value, e = .returned (v0_) ∧ Kd.R k24 24 w' w.heap.size (fun _ => True) v0_ r ∧ Below w.heap.size w w' := by
 induction k using Nat.strongRecOn with
 | _ k ih =>
 intro A0 c0 l0 A1 c1 l1 a2_0 a2_1 r w hr0 hc0 hr1 hc1 h
 cases k with
 | zero => exact absurd h (by simp [r19_Chain.f])
 | succ k =>
 simp only [r19_Chain.f] at h
 have hu24 := Tryz.underlying24
 have HR0 := Aside0.mk hr0
 have HC0 := Aside0.mk hc0
 clear hr0 hc0
 have HR1 := Aside0.mk hr1
 have HC1 := Aside0.mk hc1
 clear hr1 hc1
 have HB := Aside0.mk (Below.refl w.heap.size w)
 have H : ((r19_Depth.f k l1 a2_0 a2_1).bind fun t365 => (if t365 ≤ 1 then (some (([(⟨a2_0, a2_1⟩ : S24)] : List (S24)))) else (if 0 ≤ (wrap64 (t365 - 2)) then (if (wrap64 (t365 - 2)) < (l1.length : Int) then (r19_Chain.l0 k l0 l1 (rd_L11 l1 (wrap64 (t365 - 2))) 0 a2_0 a2_1) else (none)) else (none)))) = some r := h
 clear h
 obtain ⟨t365, A4, H⟩ := bo H
 by_cases c5 : t365 ≤ 1
 ·rw [if_pos c5] at H
  have c5b0 : decide (t365 ≤ 1) = true := decide_eq_true c5
  clear c5
  obtain ⟨y366, hy366⟩ : ∃ y_ : List (S24), y_ = (([(⟨a2_0, a2_1⟩ : S24)] : List (S24))) := ⟨_, rfl⟩
  replace H : (some y366) = some r := by first | (rw [hy366]; with_reducible exact H) | (have H2_ := (Option.bind_some _ _).symm.trans H; rw [hy366]; with_reducible exact H2_) | (have H2_ := (Option.bind_some _ _).symm.trans H; with_reducible exact H2_) | with_reducible exact H | (rw [hy366]; exact H) | exact H
  have Ny366 := Aside0.mk hy366
  clear hy366
  obtain rfl := Option.some.inj H
  go_enter Tryz.func27, Tryz.ntmps27
  go_wp2_with (first | ((with_reducible refine gate_dst (N := 5) rfl ?_); refine box_event ?hg (N := 5) ?hd (cs := #[.string a2_0, .string a2_1]) (t := 24) ?hr ?_; (case hd => rfl); (case hg => rfl); (case hr => first | (go_simp; done) | (go_simp; rfl)); intro gb364 hg w6 hbox hb; have n0_ := bs HB hb; have n1_ := Aside0.mk (hbox); have n2_ := gz hg HB; have n3_ := gz hg HB; revert n0_ n1_ n2_ n3_; clear HB; intro HB BK364 GW364 GE364; clear hb hbox hg; have hcz7_0 := bc BK364 0; have hcz7_1 := bc BK364 1; have hfz7_0 := bf BK364 0; have hfz7_1 := bf BK364 1) | ((with_reducible refine gate_callee (f := 25) rfl ?_); refine gl 12 Tryz.func25 #[.slice A1 l1.length c1, .agg #[.string a2_0, .string a2_1]] ?_; (with_reducible refine (r19_Depth.calls k _ _ l1 a2_0 a2_1 t365 _ ?side1 ?side2 A4.out).mono ?_); (case side1 => repeat (first | exact (Kd.C_below HR1.out HB.out) | (with_reducible refine Kd.C_alloc ?_ _) | (with_reducible refine Kd.C_drewN ?_ _) | (with_reducible refine Kd.C_drew ?_))); (case side2 => exact HC1.out); rintro e w8 ⟨rfl, hb⟩; refine ⟨_, rfl, ?_⟩; have n0_ := bb BK364 hb; have n1_ := bs HB hb; revert n0_ n1_; clear BK364 HB; intro BK364 HB; (try clear hb); have hcz9_0 := bc BK364 0; have hcz9_1 := bc BK364 1; have hfz9_0 := bf BK364 0; have hfz9_1 := bf BK364 1) | ((with_reducible refine gate_dst (N := 16) rfl ?_); refine Kd.R_lit k24 _ 24 ?hg (N := 16) ?hd (xs := ([(⟨a2_0, a2_1⟩ : S24)] : List (S24))) (inner := [.string a2_0, .string a2_1]) (ok := fun _ => True) (okp := fun _ => True) ?hr ?hp (fun _ hk => hk) trivial (Below.refl _ _) (Nat.le_refl _) (by simp) ?_; (case hd => rfl); (case hg => rfl); (case hr => first | (go_simp; done) | (go_simp; rfl)); (case hp => exact (Reps.c2 (show Kd.M k24 _ _ _ (⟨a2_0, a2_1⟩ : S24) [.string a2_0, .string a2_1] from (k24_mkM _ _ _ (⟨a2_0, a2_1⟩ : S24) )) (Reps.none _ _))); intro v367 w10 ho11 hb hg_ hnew_; clear hg_ hnew_; (first | rw [← Ny366.out] at ho11 | (simp only [Int.reduceToNat] at ho11; rw [← Ny366.out] at ho11)); have n0_ := Aside0.mk (Kd.R_lower (Kd.R_newB ho11 (g := gb364) (o := .cells #[.string a2_0, .string a2_1] 24 (0, 0)) (bk BK364)) (bz HB)); have n1_ := bb BK364 hb; have n2_ := bs HB hb; revert n0_ n1_ n2_; clear BK364 HB; intro HO368 BK364 HB; clear hb ho11))
  go_ret
  exact ⟨_, by first | rfl | (simp [errW_none, errW_some] <;> rfl) | (simp [*, errW_none, errW_some] <;> rfl), by (with_reducible repeat (first | apply Kd.R_alloc | apply Kd.R_drewN | apply Kd.R_drew)); exact Kd.R_mono HO368.out (fun _ hk => trivial), ba HB⟩
 ·rw [if_neg c5] at H
  have c5b0 : decide (t365 ≤ 1) = false := decide_eq_false c5
  clear c5
  obtain ⟨ji12, hji12⟩ : ∃ j_ : Int, (wrap64 (t365 - 2)) = j_ := ⟨_, rfl⟩
  replace H : (if 0 ≤ (ji12) then (if (ji12) < (l1.length : Int) then (r19_Chain.l0 k l0 l1 (rd_L11 l1 (ji12)) 0 a2_0 a2_1) else (none)) else (none)) = some r := by first | (rw [hji12] at H; exact H) | (simp only [hji12] at H ⊢; exact H)
  (try rw [hji12] at A4)
  have hji12w : (IntKind.i64.wrap (t365 - 2)) = ji12 := (i64_w _).trans hji12
  by_cases c13 : 0 ≤ (ji12)
  ·rw [if_pos c13] at H
   have c13b0 : decide (0 ≤ (ji12)) = true := decide_eq_true c13
   clear c13
   by_cases c14 : (ji12) < (l1.length : Int)
   ·rw [if_pos c14] at H
    have c14b0 : decide ((ji12) < (l1.length : Int)) = true := decide_eq_true c14
    clear c14
    have H' := Aside0.mk H
    clear H
    go_enter Tryz.func27, Tryz.ntmps27
    go_wp2_with (first | ((with_reducible refine gate_dst (N := 5) rfl ?_); refine box_event ?hg (N := 5) ?hd (cs := #[.string a2_0, .string a2_1]) (t := 24) ?hr ?_; (case hd => rfl); (case hg => rfl); (case hr => first | (go_simp; done) | (go_simp; rfl)); intro gb364 hg w15 hbox hb; have n0_ := bs HB hb; have n1_ := Aside0.mk (hbox); have n2_ := gz hg HB; have n3_ := gz hg HB; revert n0_ n1_ n2_ n3_; clear HB; intro HB BK364 GW364 GE364; clear hb hbox hg; have hcz16_0 := bc BK364 0; have hcz16_1 := bc BK364 1; have hfz16_0 := bf BK364 0; have hfz16_1 := bf BK364 1) | ((with_reducible refine gate_callee (f := 25) rfl ?_); refine gl 12 Tryz.func25 #[.slice A1 l1.length c1, .agg #[.string a2_0, .string a2_1]] ?_; (with_reducible refine (r19_Depth.calls k _ _ l1 a2_0 a2_1 t365 _ ?side1 ?side2 A4.out).mono ?_); (case side1 => repeat (first | exact (Kd.C_below HR1.out HB.out) | (with_reducible refine Kd.C_alloc ?_ _) | (with_reducible refine Kd.C_drewN ?_ _) | (with_reducible refine Kd.C_drew ?_))); (case side2 => exact HC1.out); rintro e w17 ⟨rfl, hb⟩; refine ⟨_, rfl, ?_⟩; have n0_ := bb BK364 hb; have n1_ := bs HB hb; revert n0_ n1_; clear BK364 HB; intro BK364 HB; (try clear hb); have p369 : 0 ≤ ((ji12) : Int) := of_decide_eq_true (by first | (with_reducible assumption) | assumption); have q369 : (ji12) < (l1.length : Int) := of_decide_eq_true (by first | (with_reducible assumption) | assumption); obtain ⟨ad369, A369_0, c369_0, e369, hx369_0, hl369_0, hi369_0⟩ := at_L11 HR1.out (ji12) p369 q369; cases e369; replace hx369_0 := (HB.out.cell (World.block_lt_of_cell? w _ hx369_0)).trans hx369_0; have HR369_0 := Aside0.mk hi369_0; have HC369_0 := Aside0.mk hl369_0; clear hi369_0 hl369_0; replace p369 := eq_true p369; replace q369 := eq_true q369))
    go_loopg [9] k (fun kq v9 w' => ∃ (x9_1 : Int), v9 = .int .i64 x9_1 ∧ Aside0 (r19_Chain.l0 kq l0 l1 (rd_L11 l1 (ji12)) x9_1 a2_0 a2_1 = some r) ∧ Aside0 (kq ≤ k) ∧ Aside0 (w'.heap[gb364]? = some (.cells #[.string a2_0, .string a2_1] 24 (0, 0))) ∧ Aside0 (Below w.heap.size w w'))
    case atStart => exact ⟨(0), (by first | rfl | (simp; done) | (simp [*]; done)), H', ⟨Nat.le_refl _⟩, ⟨by (with_reducible repeat (first | refine blk_drewN ?_ _ | refine blk_drew ?_ | refine blk_alloc ?_ _)); exact BK364.out⟩, ⟨ba HB⟩⟩
    case round =>
     clear H'
     try clear c1
     try clear c2
     try clear p2
     try clear c3
     try clear p3
     try clear q3
     try clear hx3
     try clear c5
     try clear c5b0
     try clear p6
     try clear c13
     try clear c13b0
     try clear c14
     try clear c14b0
     try clear hcz16_0
     try clear hcz16_1
     try clear hcz7_0
     try clear hcz7_1
     try clear hcz9_0
     try clear hcz9_1
     try clear hfz16_0
     try clear hfz16_1
     try clear hfz7_0
     try clear hfz7_1
     try clear hfz9_0
     try clear hfz9_1
     try clear hx369_0
     try clear p369
     try clear q369
     obtain ⟨x9_1, rfl, HA, HK1, BK364, HB⟩ := hrel
     cases gk with
     | zero => exact absurd HA.out (by simp [r19_Chain.l0])
     | succ k1 =>
      have H := HA.out
      clear HA
      simp only [r19_Chain.l0] at H
      by_cases c18 : x9_1 < ((rd_L11 l1 (ji12)).length : Int)
      ·rw [if_pos c18] at H
       have c18b0 : decide (x9_1 < ((rd_L11 l1 (ji12)).length : Int)) = true := decide_eq_true c18
       clear c18
       by_cases c19 : 0 ≤ x9_1
       ·rw [if_pos c19] at H
        have c19b0 : decide (0 ≤ x9_1) = true := decide_eq_true c19
        clear c19
        obtain ⟨t371, A20, H⟩ := bo H
        by_cases c21 : t371 = true
        ·subst c21
         replace H := it H
         obtain ⟨t373, A22, H⟩ := bo H
         obtain ⟨y376, hy376⟩ : ∃ y_ : List (S24), y_ = (([(⟨a2_0, a2_1⟩ : S24)] : List (S24))) := ⟨_, rfl⟩
         replace H : (if t373.length + y376.length < 4398046511104 then (some (t373 ++ y376)) else (none)) = some r := by first | (rw [hy376]; with_reducible exact H) | (have H2_ := (Option.bind_some _ _).symm.trans H; rw [hy376]; with_reducible exact H2_) | (have H2_ := (Option.bind_some _ _).symm.trans H; with_reducible exact H2_) | with_reducible exact H | (rw [hy376]; exact H) | exact H
         have Ny376 := Aside0.mk hy376
         clear hy376
         by_cases c23 : t373.length + y376.length < 4398046511104
         ·rw [if_pos c23] at H
          have LMc23 := Aside0.mk c23
          clear c23
          obtain ⟨y379, hy379⟩ : ∃ y_ : List (S24), y_ = (t373 ++ y376) := ⟨_, rfl⟩
          replace H : (some y379) = some r := by first | (rw [hy379]; with_reducible exact H) | (have H2_ := (Option.bind_some _ _).symm.trans H; rw [hy379]; with_reducible exact H2_) | (have H2_ := (Option.bind_some _ _).symm.trans H; with_reducible exact H2_) | with_reducible exact H | (rw [hy379]; exact H) | exact H
          have Ny379 := Aside0.mk hy379
          clear hy379
          obtain rfl := Option.some.inj H
          try go_wp2
          have n0_ := Aside0.mk (blk_drew BK364.out)
          have n1_ := Aside0.mk (below_drew1 HB.out)
          revert n0_ n1_
          clear BK364 HB
          intro BK364 HB
          have p370 : 0 ≤ (x9_1 : Int) := of_decide_eq_true (by first | (with_reducible assumption) | assumption)
          have q370 : x9_1 < ((rd_L11 l1 (ji12)).length : Int) := of_decide_eq_true (by first | (with_reducible assumption) | assumption)
          obtain ⟨ad370, e370, hx370_0, hx370_1⟩ := at_T24 HR369_0.out x9_1 p370 q370
          have hw370_1 := hx370_1
          have hw370_0 := hx370_0
          cases e370
          replace hx370_0 := (HB.out.cell (World.block_lt_of_cell? w _ hx370_0)).trans hx370_0
          replace hx370_1 := (HB.out.cell (World.block_lt_of_cell? w _ hx370_1)).trans hx370_1
          replace p370 := eq_true p370
          replace q370 := eq_true q370
          refine start_ (n := 7) (S := fun w' => w'.cell? ⟨gb364, 0, none⟩ = some (.string a2_0) ∧ w'.cell? ⟨gb364, 1, none⟩ = some (.string a2_1) ∧ w'.cell? (ad370.add ((x9_1).toNat * 2)) = some (.string ((rd_T24 (rd_L11 l1 (ji12)) x9_1).f0)) ∧ w'.cell? ⟨(ad370.add ((x9_1).toNat * 2)).block, (ad370.add ((x9_1).toNat * 2)).off + 1, none⟩ = some (.string ((rd_T24 (rd_L11 l1 (ji12)) x9_1).f1))) (ds := []) #[false, false, false, false, false, false, false] (by kernel_rfl) rfl rfl ⟨bc BK364 0, bc BK364 1, ((HB.out.cell (World.block_lt_of_cell? w _ hw370_0)).trans hw370_0), ((HB.out.cell (World.block_lt_of_cell? w _ hw370_1)).trans hw370_1)⟩ (fun hHeld => ?_)
          generalize wr.drew = w24 at BK364 HB hx370_0 hx370_1 hHeld ⊢
          refine pu 0 28 ?_
          refine pu 1 29 ?_
          refine pu 2 30 ?_
          refine pu 3 31 ?_
          refine tk 4 32 ?_
          refine tk 5 33 ?_
          refine oq 6 (some 34) fun K hK => ?_
          refine goes_ Tryz.func81 (by kernel_rfl) rfl #[.slice A0 l0.length c0, .agg #[.string ((rd_T24 (rd_L11 l1 (ji12)) x9_1).f0), .string ((rd_T24 (rd_L11 l1 (ji12)) x9_1).f1)], .agg #[.string a2_0, .string a2_1]] (by rfl) rfl rfl (by (try simp only [List.map_toArray, List.map_cons, List.map_nil]); first | done | (simp only [hji12]; rfl) | rfl | (simp only [List.length_drop, List.length_take]; rfl)) ?_
          with_reducible refine (r19_Has.calls k1 _ _ l0 ((rd_T24 (rd_L11 l1 (ji12)) x9_1).f0) ((rd_T24 (rd_L11 l1 (ji12)) x9_1).f1) a2_0 a2_1 true _ ?side1 ?side2 A20.out).mono ?_
          (case side1 => repeat (first | exact (Kd.C_below HR0.out HB.out) | (with_reducible refine Kd.C_alloc ?_ _) | (with_reducible refine Kd.C_drewN ?_ _) | (with_reducible refine Kd.C_drew ?_)))
          (case side2 => exact HC0.out)
          rintro e w25 ⟨rfl, hb⟩
          refine ⟨_, rfl, ?_⟩
          have n0_ := bb BK364 hb
          have n1_ := bs HB hb
          revert n0_ n1_
          clear BK364 HB
          intro BK364 HB
          try clear hb
          refine hK.out _ _ ⟨bc BK364 0, bc BK364 1, ((HB.out.cell (World.block_lt_of_cell? w _ hw370_0)).trans hw370_0), ((HB.out.cell (World.block_lt_of_cell? w _ hw370_1)).trans hw370_1)⟩ (fun hHeld => ?_)
          clear hK K
          refine nm ?_
          refine dq ?_
          try go_wp2
          have n0_ := Aside0.mk (blk_drew BK364.out)
          have n1_ := Aside0.mk (below_drew1 HB.out)
          revert n0_ n1_
          clear BK364 HB
          intro BK364 HB
          have p372 : 0 ≤ (x9_1 : Int) := of_decide_eq_true (by first | (with_reducible assumption) | assumption)
          have q372 : x9_1 < ((rd_L11 l1 (ji12)).length : Int) := of_decide_eq_true (by first | (with_reducible assumption) | assumption)
          obtain ⟨ad372, e372, hx372_0, hx372_1⟩ := at_T24 HR369_0.out x9_1 p372 q372
          have hw372_1 := hx372_1
          have hw372_0 := hx372_0
          obtain rfl : ad370 = ad372 := (by injection e372)
          replace hx372_0 := (HB.out.cell (World.block_lt_of_cell? w _ hx372_0)).trans hx372_0
          replace hx372_1 := (HB.out.cell (World.block_lt_of_cell? w _ hx372_1)).trans hx372_1
          replace p372 := eq_true p372
          replace q372 := eq_true q372
          refine start_ (n := 11) (S := fun w' => w'.cell? ⟨gb364, 0, none⟩ = some (.string a2_0) ∧ w'.cell? ⟨gb364, 1, none⟩ = some (.string a2_1) ∧ w'.cell? (ad370.add ((x9_1).toNat * 2)) = some (.string ((rd_T24 (rd_L11 l1 (ji12)) x9_1).f0)) ∧ w'.cell? ⟨(ad370.add ((x9_1).toNat * 2)).block, (ad370.add ((x9_1).toNat * 2)).off + 1, none⟩ = some (.string ((rd_T24 (rd_L11 l1 (ji12)) x9_1).f1))) (ds := []) #[false, false, false, false, false, false, false, false, false, false, false] (by kernel_rfl) rfl rfl ⟨bc BK364 0, bc BK364 1, ((HB.out.cell (World.block_lt_of_cell? w _ hw372_0)).trans hw372_0), ((HB.out.cell (World.block_lt_of_cell? w _ hw372_1)).trans hw372_1)⟩ (fun hHeld => ?_); refine with_tabW r19_Chain.tab9 r19_Chain.bits9 (fun HT_ HW_ => ?_)
          generalize w25.drew = w26 at BK364 HB hx372_0 hx372_1 hHeld ⊢
          refine pu 0 35 ?_
          refine pu 1 36 ?_
          refine pu 2 37 ?_
          refine pu 3 38 ?_
          refine pu 4 39 ?_
          refine tk 5 40 ?_
          refine tk 7 42 ?_
          refine join_ (σ := Value × Value) 2 #[true, true, true, true, true, true, true, true, true, false, false] (fun s_ => [(41, s_.1), (43, s_.2)]) (fun s_ w' => (w'.cell? ⟨gb364, 0, none⟩ = some (.string a2_0) ∧ w'.cell? ⟨gb364, 1, none⟩ = some (.string a2_1) ∧ w'.cell? (ad370.add ((x9_1).toNat * 2)) = some (.string ((rd_T24 (rd_L11 l1 (ji12)) x9_1).f0)) ∧ w'.cell? ⟨(ad370.add ((x9_1).toNat * 2)).block, (ad370.add ((x9_1).toNat * 2)).off + 1, none⟩ = some (.string ((rd_T24 (rd_L11 l1 (ji12)) x9_1).f1))) ∧ (Kd.R k24 24 w' w.heap.size (fun k_ => some k_ ≠ (s_.2 : Value).ownBlock ∧ k_ ≠ gb364) s_.1 t373) ∧ (Kd.R k24 24 w' w.heap.size (fun k_ => some k_ ≠ (s_.1 : Value).ownBlock ∧ k_ ≠ gb364) s_.2 y376) ∧ (w'.heap[gb364]? = some (.cells #[.string a2_0, .string a2_1] 24 (0, 0))) ∧ (Below w.heap.size w w')) ?_ ?_
          rotate_left
          ·intro hCont
           refine two_ (i := 6) (j := 8) (Ni := some 41) (Nj := some 43) #[true, true, true, true, true, true, true, true, false, false, false] #[true, true, true, true, true, true, false, true, true, false, false] rfl rfl rfl rfl (two_of HT_.out (by kernel_rfl)) (by decide) (by decide) (fun K hK => ?_) (fun K hK => ?_)
           ·skip
            refine goes_ Tryz.func27 (by kernel_rfl) rfl #[.slice A0 l0.length c0, .slice (some ad369) l1.length c1, .agg #[.string ((rd_T24 (rd_L11 l1 (ji12)) x9_1).f0), .string ((rd_T24 (rd_L11 l1 (ji12)) x9_1).f1)]] (by rfl) rfl rfl (by (try simp only [List.map_toArray, List.map_cons, List.map_nil]); first | done | (simp only [hji12]; rfl) | rfl | (simp only [List.length_drop, List.length_take]; rfl)) ?_
            with_reducible refine (ih k1 (by have := HK1.out; omega) _ _ l0 _ _ l1 ((rd_T24 (rd_L11 l1 (ji12)) x9_1).f0) ((rd_T24 (rd_L11 l1 (ji12)) x9_1).f1) t373 _ ?side1 ?side2 ?side3 ?side4 A22.out).mono ?_
            (case side1 => repeat (first | exact (Kd.C_below HR0.out HB.out) | (with_reducible refine Kd.C_alloc ?_ _) | (with_reducible refine Kd.C_drewN ?_ _) | (with_reducible refine Kd.C_drew ?_)))
            (case side2 => exact HC0.out)
            (case side3 => repeat (first | exact (Kd.C_below HR1.out HB.out) | (with_reducible refine Kd.C_alloc ?_ _) | (with_reducible refine Kd.C_drewN ?_ _) | (with_reducible refine Kd.C_drew ?_)))
            (case side4 => exact HC1.out)
            rintro e w27 ⟨v374, rfl, ho0, hb⟩
            refine ⟨_, rfl, ?_⟩
            have n0_ := Aside0.mk (Kd.R_lower (Kd.R_newB ho0 (g := gb364) (o := .cells #[.string a2_0, .string a2_1] 24 (0, 0)) (bk BK364)) (bz HB))
            have n1_ := bb BK364 hb
            have n2_ := bs HB hb
            revert n0_ n1_ n2_
            clear BK364 HB
            intro HO375 BK364 HB
            try clear hb
            (try clear ho0)
            refine hK.out _ _ ⟨bc BK364 0, bc BK364 1, ((HB.out.cell (World.block_lt_of_cell? w _ hw372_0)).trans hw372_0), ((HB.out.cell (World.block_lt_of_cell? w _ hw372_1)).trans hw372_1)⟩ (fun hHeld => ?_)
            clear hK K
            refine nm ?_
            refine oq 8 (some 43) fun K hK => ?_
            refine Kd.R_lit_step k24 _ 24 ?hg (N := 43) ?hd (xs := ([(⟨a2_0, a2_1⟩ : S24)] : List (S24))) (inner := [.string a2_0, .string a2_1]) (ok := fun _ => True) (okp := fun _ => True) ?hr ?hp (fun _ hk => hk) trivial (Below.refl _ _) (Nat.le_refl _) (by simp) ?_; (case hd => rfl); (case hg => rfl); (case hr => first | (go_simp; done) | (go_simp; rfl)); (case hp => exact (Reps.c2 (show Kd.M k24 _ _ _ (⟨a2_0, a2_1⟩ : S24) [.string a2_0, .string a2_1] from (k24_mkM _ _ _ (⟨a2_0, a2_1⟩ : S24) )) (Reps.none _ _)))
            intro v377 w28 ho29 hb hg_ hnew_
            clear hg_ hnew_
            (first | rw [← Ny376.out] at ho29 | (simp only [Int.reduceToNat] at ho29; rw [← Ny376.out] at ho29))
            have n0_ := Aside0.mk (Kd.R_elder' (ra HO375) (Kd.R_base ho29) hb)
            have n1_ := Aside0.mk (Kd.R_lower (Kd.R_newB (Kd.R_new' ho29 (Kd.R_lt (ra HO375))) (g := gb364) (o := .cells #[.string a2_0, .string a2_1] 24 (0, 0)) (bk BK364)) (bz HB))
            have n2_ := bb BK364 hb
            have n3_ := bs HB hb
            revert n0_ n1_ n2_ n3_
            clear HO375 BK364 HB
            intro HO375 HO378 BK364 HB
            clear hb ho29
            refine hK.out _ _ ⟨bc BK364 0, bc BK364 1, ((HB.out.cell (World.block_lt_of_cell? w _ hw372_0)).trans hw372_0), ((HB.out.cell (World.block_lt_of_cell? w _ hw372_1)).trans hw372_1)⟩ (fun hHeld => ?_)
            clear hK K
            refine nm ?_
            exact norm_ (by simp only [putAll, Act.put, List.setIfInBounds_toArray, List.set_cons_zero, List.set_cons_succ]) (hCont (v374, v377) _ ⟨hHeld, (by (with_reducible repeat (first | apply Kd.R_alloc | apply Kd.R_drewN | apply Kd.R_drew)); exact Kd.R_mono HO375.out (fun _ hk => ⟨hk.2, hk.1.2⟩)), (by (with_reducible repeat (first | apply Kd.R_alloc | apply Kd.R_drewN | apply Kd.R_drew)); exact Kd.R_mono HO378.out (fun _ hk => ⟨hk.1.2, hk.2⟩)), (bk BK364), (ba HB)⟩)
           ·skip
            refine Kd.R_lit_step k24 _ 24 ?hg (N := 43) ?hd (xs := ([(⟨a2_0, a2_1⟩ : S24)] : List (S24))) (inner := [.string a2_0, .string a2_1]) (ok := fun _ => True) (okp := fun _ => True) ?hr ?hp (fun _ hk => hk) trivial (Below.refl _ _) (Nat.le_refl _) (by simp) ?_; (case hd => rfl); (case hg => rfl); (case hr => first | (go_simp; done) | (go_simp; rfl)); (case hp => exact (Reps.c2 (show Kd.M k24 _ _ _ (⟨a2_0, a2_1⟩ : S24) [.string a2_0, .string a2_1] from (k24_mkM _ _ _ (⟨a2_0, a2_1⟩ : S24) )) (Reps.none _ _)))
            intro v377 w27 ho28 hb hg_ hnew_
            clear hg_ hnew_
            (first | rw [← Ny376.out] at ho28 | (simp only [Int.reduceToNat] at ho28; rw [← Ny376.out] at ho28))
            have n0_ := Aside0.mk (Kd.R_lower (Kd.R_newB ho28 (g := gb364) (o := .cells #[.string a2_0, .string a2_1] 24 (0, 0)) (bk BK364)) (bz HB))
            have n1_ := bb BK364 hb
            have n2_ := bs HB hb
            revert n0_ n1_ n2_
            clear BK364 HB
            intro HO378 BK364 HB
            clear hb ho28
            refine hK.out _ _ ⟨bc BK364 0, bc BK364 1, ((HB.out.cell (World.block_lt_of_cell? w _ hw372_0)).trans hw372_0), ((HB.out.cell (World.block_lt_of_cell? w _ hw372_1)).trans hw372_1)⟩ (fun hHeld => ?_)
            clear hK K
            refine nm ?_
            refine oq 6 (some 41) fun K hK => ?_
            refine goes_ Tryz.func27 (by kernel_rfl) rfl #[.slice A0 l0.length c0, .slice (some ad369) l1.length c1, .agg #[.string ((rd_T24 (rd_L11 l1 (ji12)) x9_1).f0), .string ((rd_T24 (rd_L11 l1 (ji12)) x9_1).f1)]] (by rfl) rfl rfl (by (try simp only [List.map_toArray, List.map_cons, List.map_nil]); first | done | (simp only [hji12]; rfl) | rfl | (simp only [List.length_drop, List.length_take]; rfl)) ?_
            with_reducible refine (ih k1 (by have := HK1.out; omega) _ _ l0 _ _ l1 ((rd_T24 (rd_L11 l1 (ji12)) x9_1).f0) ((rd_T24 (rd_L11 l1 (ji12)) x9_1).f1) t373 _ ?side1 ?side2 ?side3 ?side4 A22.out).mono ?_
            (case side1 => repeat (first | exact (Kd.C_below HR0.out HB.out) | (with_reducible refine Kd.C_alloc ?_ _) | (with_reducible refine Kd.C_drewN ?_ _) | (with_reducible refine Kd.C_drew ?_)))
            (case side2 => exact HC0.out)
            (case side3 => repeat (first | exact (Kd.C_below HR1.out HB.out) | (with_reducible refine Kd.C_alloc ?_ _) | (with_reducible refine Kd.C_drewN ?_ _) | (with_reducible refine Kd.C_drew ?_)))
            (case side4 => exact HC1.out)
            rintro e w29 ⟨v374, rfl, ho0, hb⟩
            refine ⟨_, rfl, ?_⟩
            have n0_ := Aside0.mk (Kd.R_elder' (ra HO378) (Kd.R_base ho0) hb)
            have n1_ := Aside0.mk (Kd.R_lower (Kd.R_newB (Kd.R_new' ho0 (Kd.R_lt (ra HO378))) (g := gb364) (o := .cells #[.string a2_0, .string a2_1] 24 (0, 0)) (bk BK364)) (bz HB))
            have n2_ := bb BK364 hb
            have n3_ := bs HB hb
            revert n0_ n1_ n2_ n3_
            clear HO378 BK364 HB
            intro HO378 HO375 BK364 HB
            try clear hb
            (try clear ho0)
            refine hK.out _ _ ⟨bc BK364 0, bc BK364 1, ((HB.out.cell (World.block_lt_of_cell? w _ hw372_0)).trans hw372_0), ((HB.out.cell (World.block_lt_of_cell? w _ hw372_1)).trans hw372_1)⟩ (fun hHeld => ?_)
            clear hK K
            refine nm ?_
            exact norm_ (by simp only [putAll, Act.put, List.setIfInBounds_toArray, List.set_cons_zero, List.set_cons_succ]) (hCont (v374, v377) _ ⟨hHeld, (by (with_reducible repeat (first | apply Kd.R_alloc | apply Kd.R_drewN | apply Kd.R_drew)); exact Kd.R_mono HO375.out (fun _ hk => ⟨hk.1.2, hk.2⟩)), (by (with_reducible repeat (first | apply Kd.R_alloc | apply Kd.R_drewN | apply Kd.R_drew)); exact Kd.R_mono HO378.out (fun _ hk => ⟨hk.2, hk.1.2⟩)), (bk BK364), (ba HB)⟩)
          rintro ⟨v374, v377⟩ w30 ⟨hS_, h0_, h1_, h2_, h3_⟩
          have n0_ : Aside0 (Kd.R k24 24 w30 w.heap.size (fun k_ => some k_ ≠ (v377 : Value).ownBlock ∧ k_ ≠ gb364) v374 t373) := ⟨h0_⟩
          have n1_ : Aside0 (Kd.R k24 24 w30 w.heap.size (fun k_ => some k_ ≠ (v374 : Value).ownBlock ∧ k_ ≠ gb364) v377 y376) := ⟨h1_⟩
          have n2_ : Aside0 (w30.heap[gb364]? = some (.cells #[.string a2_0, .string a2_1] 24 (0, 0))) := ⟨h2_⟩
          have n3_ : Aside0 (Below w.heap.size w w30) := ⟨h3_⟩
          clear BK364
          clear HB
          clear h0_ h1_ h2_ h3_
          revert n0_ n1_ n2_ n3_
          intro HO375 HO378 BK364 HB
          have hHeld : w30.cell? ⟨gb364, 0, none⟩ = some (.string a2_0) ∧ w30.cell? ⟨gb364, 1, none⟩ = some (.string a2_1) ∧ w30.cell? (ad370.add ((x9_1).toNat * 2)) = some (.string ((rd_T24 (rd_L11 l1 (ji12)) x9_1).f0)) ∧ w30.cell? ⟨(ad370.add ((x9_1).toNat * 2)).block, (ad370.add ((x9_1).toNat * 2)).off + 1, none⟩ = some (.string ((rd_T24 (rd_L11 l1 (ji12)) x9_1).f1)) := hS_
          obtain ⟨Ao32, co32, eo32⟩ := Kd.R_slice HO378.out
          (first | subst eo32 | (injection eo32 with f1_ f2_ f3_; have f4_ := f1_.symm; have f5_ := f3_.symm; clear f1_ f2_ f3_; subst f4_; subst f5_))
          refine norm_ (a' := ?_) ?_ ?_
          rotate_left
          ·simp only [putAll, Act.put, List.setIfInBounds_toArray, List.set_cons_zero, List.set_cons_succ]
           rfl
          refine oq 9 (some 44) fun K hK => ?_
          refine Kd.R_append_rows_step k24 (w0 := w) w.heap.size (by rfl) (.tmp 41) (.tmp 43) 31 24 (.agg #[(.string ⟨#[]⟩), (.string ⟨#[]⟩)]) 32 rfl Tryz.underlying31 info24 rfl (by decide) (by omega) v374 t373 y376 _ _ _ (fun k_ => some k_ ≠ (.slice Ao32 y376.length co32 : Value).ownBlock ∧ k_ ≠ gb364) (fun _ => False) rfl rfl ?aO ?aR (fun _ _ h => h) (fun _ h => h.elim) ?aF ?aB ?aS ?aL ?_
          (case aR => repeat (first | exact (Kd.R_reads' HO378.out).2.2 | (with_reducible refine Kd.C_alloc ?_ _) | (with_reducible refine Kd.C_drewN ?_ _) | (with_reducible refine Kd.C_drew ?_)))
          (case aB => exact (ba HB))
          (case aF => exact (fun k_ hk => ⟨Kd.fresh' (Kd.R_lt (ra HO378)) k_ hk, Kd.freshB (g := gb364) (o := .cells #[.string a2_0, .string a2_1] 24 (0, 0)) (bk BK364) k_ hk⟩))
          (case aO => exact (ra HO375))
          (case aS => exact (bz HB))
          (case aL => have := LMc23.out; omega)
          intro v380 w31 ho hb hg hat
          rw [← Ny379.out] at ho
          have n0_ := Aside0.mk (blk_grown (g := gb364) (o := .cells #[.string a2_0, .string a2_1] 24 (0, 0)) (bk BK364) hg (Kd.R_away HO375.out (fun _ hk => hk.2)))
          have n1_ := Aside0.mk (Kd.R_after (ok := (fun k_ => k_ ≠ gb364)) (by (with_reducible repeat (first | apply Kd.R_alloc | apply Kd.R_drewN | apply Kd.R_drew)); exact Kd.R_mono HO378.out (fun _ hk => ⟨hk.2, hk.1⟩)) hg hat)
          have n2_ := Aside0.mk (hb)
          have n3_ := Aside0.mk (ho)
          revert n0_ n1_ n2_ n3_
          clear BK364 HO378 HB HO375
          intro BK364 HO378 HB HO381
          clear ho hb hg hat
          refine hK.out _ _ ⟨bc BK364 0, bc BK364 1, ((HB.out.cell (World.block_lt_of_cell? w _ hw372_0)).trans hw372_0), ((HB.out.cell (World.block_lt_of_cell? w _ hw372_1)).trans hw372_1)⟩ (fun hHeld => ?_)
          clear hK K
          refine nm ?_
          refine pu 10 6 ?_
          refine dq ?_
          try go_wp2
          go_ret
          exact ⟨_, by first | rfl | (simp [errW_none, errW_some] <;> rfl) | (simp only [← hji12]; first | rfl | (simp [errW_none, errW_some] <;> rfl)) | (simp [*, errW_none, errW_some] <;> rfl), by (with_reducible repeat (first | apply Kd.R_alloc | apply Kd.R_drewN | apply Kd.R_drew)); exact Kd.R_mono HO381.out (fun _ hk => trivial), ba HB⟩
         ·rw [if_neg c23] at H
          exact absurd H (by simp)
        ·replace c21 := Bool.eq_false_iff.mpr c21
         subst c21
         replace H := jf H
         have H' := Aside0.mk H
         clear H
         try go_wp2
         have n0_ := Aside0.mk (blk_drew BK364.out)
         have n1_ := Aside0.mk (below_drew1 HB.out)
         revert n0_ n1_
         clear BK364 HB
         intro BK364 HB
         have p370 : 0 ≤ (x9_1 : Int) := of_decide_eq_true (by first | (with_reducible assumption) | assumption)
         have q370 : x9_1 < ((rd_L11 l1 (ji12)).length : Int) := of_decide_eq_true (by first | (with_reducible assumption) | assumption)
         obtain ⟨ad370, e370, hx370_0, hx370_1⟩ := at_T24 HR369_0.out x9_1 p370 q370
         have hw370_1 := hx370_1
         have hw370_0 := hx370_0
         cases e370
         replace hx370_0 := (HB.out.cell (World.block_lt_of_cell? w _ hx370_0)).trans hx370_0
         replace hx370_1 := (HB.out.cell (World.block_lt_of_cell? w _ hx370_1)).trans hx370_1
         replace p370 := eq_true p370
         replace q370 := eq_true q370
         refine start_ (n := 7) (S := fun w' => w'.cell? ⟨gb364, 0, none⟩ = some (.string a2_0) ∧ w'.cell? ⟨gb364, 1, none⟩ = some (.string a2_1) ∧ w'.cell? (ad370.add ((x9_1).toNat * 2)) = some (.string ((rd_T24 (rd_L11 l1 (ji12)) x9_1).f0)) ∧ w'.cell? ⟨(ad370.add ((x9_1).toNat * 2)).block, (ad370.add ((x9_1).toNat * 2)).off + 1, none⟩ = some (.string ((rd_T24 (rd_L11 l1 (ji12)) x9_1).f1))) (ds := []) #[false, false, false, false, false, false, false] (by kernel_rfl) rfl rfl ⟨bc BK364 0, bc BK364 1, ((HB.out.cell (World.block_lt_of_cell? w _ hw370_0)).trans hw370_0), ((HB.out.cell (World.block_lt_of_cell? w _ hw370_1)).trans hw370_1)⟩ (fun hHeld => ?_)
         generalize wr.drew = w33 at BK364 HB hx370_0 hx370_1 hHeld ⊢
         refine pu 0 28 ?_
         refine pu 1 29 ?_
         refine pu 2 30 ?_
         refine pu 3 31 ?_
         refine tk 4 32 ?_
         refine tk 5 33 ?_
         refine oq 6 (some 34) fun K hK => ?_
         refine goes_ Tryz.func81 (by kernel_rfl) rfl #[.slice A0 l0.length c0, .agg #[.string ((rd_T24 (rd_L11 l1 (ji12)) x9_1).f0), .string ((rd_T24 (rd_L11 l1 (ji12)) x9_1).f1)], .agg #[.string a2_0, .string a2_1]] (by rfl) rfl rfl (by (try simp only [List.map_toArray, List.map_cons, List.map_nil]); first | done | (simp only [hji12]; rfl) | rfl | (simp only [List.length_drop, List.length_take]; rfl)) ?_
         with_reducible refine (r19_Has.calls k1 _ _ l0 ((rd_T24 (rd_L11 l1 (ji12)) x9_1).f0) ((rd_T24 (rd_L11 l1 (ji12)) x9_1).f1) a2_0 a2_1 false _ ?side1 ?side2 A20.out).mono ?_
         (case side1 => repeat (first | exact (Kd.C_below HR0.out HB.out) | (with_reducible refine Kd.C_alloc ?_ _) | (with_reducible refine Kd.C_drewN ?_ _) | (with_reducible refine Kd.C_drew ?_)))
         (case side2 => exact HC0.out)
         rintro e w34 ⟨rfl, hb⟩
         refine ⟨_, rfl, ?_⟩
         have n0_ := bb BK364 hb
         have n1_ := bs HB hb
         revert n0_ n1_
         clear BK364 HB
         intro BK364 HB
         try clear hb
         refine hK.out _ _ ⟨bc BK364 0, bc BK364 1, ((HB.out.cell (World.block_lt_of_cell? w _ hw370_0)).trans hw370_0), ((HB.out.cell (World.block_lt_of_cell? w _ hw370_1)).trans hw370_1)⟩ (fun hHeld => ?_)
         clear hK K
         refine nm ?_
         refine dq ?_
         try go_wp2
         go_roundg k1
         case measure => have := HK1.out; omega
         case rel => exact ⟨(wrap64 (x9_1 + 1)), (by first | rfl | (simp; done) | (simp [*]; done)), H', ⟨by have := HK1.out; omega⟩, ⟨by (with_reducible repeat (first | refine blk_drewN ?_ _ | refine blk_drew ?_ | refine blk_alloc ?_ _)); exact BK364.out⟩, ⟨ba HB⟩⟩
       ·rw [if_neg c19] at H
        exact absurd H (by simp)
      ·rw [if_neg c18] at H
       have c18b0 : decide (x9_1 < ((rd_L11 l1 (ji12)).length : Int)) = false := decide_eq_false c18
       clear c18
       obtain rfl := Option.some.inj H
       go_wp2
       go_ret
       exact ⟨_, by first | rfl | (simp [errW_none, errW_some] <;> rfl) | (simp only [← hji12]; first | rfl | (simp [errW_none, errW_some] <;> rfl)) | (simp [*, errW_none, errW_some] <;> rfl), by first | exact Kd.R_nil _ _ _ _ _ | exact Kd.N_nil _ _ _ _ _ | exact Kd.V_nil _ _ _ _ _ | exact Kd.Q_nil _ _ _ _ _ | exact Kd.S_nil _ _ _ _ _, ba HB⟩
   ·rw [if_neg c14] at H
    exact absurd H (by simp)
  ·rw [if_neg c13] at H
   exact absurd H (by simp)
end Go.Proofs.YtjfcmkddeglghaaGreatDoor.G
end
section
namespace Go.Proofs.YtjfcmkddeglghaaGreatDoor.G
open Go.RowKit Go.Proofs.YtjfcmkddeglghaaGreatDoorW.PrintWords Go.Proofs.YtjfcmkddeglghaaGreatDoorW.PrintLast Go.Proofs.YtjfcmkddeglghaaGreatDoorW.PrintMore
attribute [local go_sem] max2_int min2_int max_two min_two max_three min_three max_four min_four
set_option linter.unusedVariables false
set_option linter.unusedSimpArgs false
attribute [local go_sem high] eqA24
def api_Node_139.l0 : Nat → List (S24) → Int → Int → ByteArray → ByteArray → Option (Int)
 | 0, _, _, _, _, _ => none
 | k + 1, x0, x7, x8, x214000, x214001 => if x8 < x7 then (if 0 ≤ x8 then (if x8 < (x0.length : Int) then (if (x214000.toList == (((rd_T24 x0 x8).f0).toList) && (x214001.toList == (((rd_T24 x0 x8).f1).toList))) = true then (some x8) else (api_Node_139.l0 k x0 x7 (wrap64 (x8 + 1)) x214000 x214001)) else (none)) else (none)) else (some (-1))
def api_Node_139.f (k : Nat) (l0 : List (S24)) (a1_0 : ByteArray) (a1_1 : ByteArray) : Option (Int) := api_Node_139.l0 k l0 (l0.length : Int) 0 a1_0 a1_1
theorem api_Node_139.mono_l : ∀ k, (∀ y0 y1 y2 y3 y4, LeO (api_Node_139.l0 k y0 y1 y2 y3 y4) (api_Node_139.l0 (k + 1) y0 y1 y2 y3 y4))
 | 0 => fun _ _ _ _ _ r h => by simp [api_Node_139.l0] at h
 | k + 1 => by
  have ih0 := api_Node_139.mono_l k
  ·intro y0 y1 y2 y3 y4
   unfold api_Node_139.l0
   repeat' first
   | (with_reducible exact ih0 _ _ _ _ _)
   | (with_reducible exact LeO.refl _)
   | (with_reducible exact LeO.none _)
   | (with_reducible refine LeO.ite ?_ ?_)
   | (with_reducible refine LeO.bind ?_ (fun _ => ?_))
   | exact ih0 _ _ _ _ _
   | exact LeO.none _
   | refine LeO.ite ?_ ?_
   | refine LeO.bind ?_ (fun _ => ?_)
theorem api_Node_139.mono : ∀ a0 a1 a2 k, LeO (api_Node_139.f k a0 a1 a2) (api_Node_139.f (k + 1) a0 a1 a2) := by
 intro a0 a1 a2 k
 have ih0 := api_Node_139.mono_l k
 unfold api_Node_139.f
 repeat' first
   | (with_reducible exact ih0 _ _ _ _ _)
   | (with_reducible exact LeO.refl _)
   | (with_reducible exact LeO.none _)
   | (with_reducible refine LeO.ite ?_ ?_)
   | (with_reducible refine LeO.bind ?_ (fun _ => ?_))
   | exact ih0 _ _ _ _ _
   | exact LeO.none _
   | refine LeO.ite ?_ ?_
   | refine LeO.bind ?_ (fun _ => ?_)
set_option maxHeartbeats 8000000 in
set_option maxRecDepth 100000 in
theorem api_Node_139.calls (k : Nat) (A0 : Option Addr) (c0 : Nat) (l0 : List (S24)) (a1_0 : ByteArray) (a1_1 : ByteArray) (r : Int) (w : World) (hr0 : Kd.C k24 w A0 l0.length l0) (hc0 : l0.length ≤ c0) (h : api_Node_139.f k l0 a1_0 a1_1 = some r) :
  Calls Tryz.prog 139 #[.slice A0 l0.length c0, .agg #[.string a1_0, .string a1_1]] w fun e w' => e = .returned (.int .i64 r) ∧ Below w.heap.size w w' := by
 have hu24 := Tryz.underlying24
 have HR0 := Aside0.mk hr0
 have HC0 := Aside0.mk hc0
 clear hr0 hc0
 have HB := Aside0.mk (Below.refl w.heap.size w)
 have H : (api_Node_139.l0 k l0 (l0.length : Int) 0 a1_0 a1_1) = some r := h
 clear h
 have H' := Aside0.mk H
 clear H
 go_enter Tryz.func139, Tryz.ntmps139
 go_wp2_with (first | ((with_reducible refine gate_dst (N := 3) rfl ?_); refine box_event ?hg (N := 3) ?hd (cs := #[.string a1_0, .string a1_1]) (t := 24) ?hr ?_; (case hd => rfl); (case hg => rfl); (case hr => first | (go_simp; done) | (go_simp; rfl)); intro gb213 hg w3 hbox hb; have n0_ := bs HB hb; have n1_ := Aside0.mk (hbox); have n2_ := gz hg HB; have n3_ := gz hg HB; revert n0_ n1_ n2_ n3_; clear HB; intro HB BK213 GW213 GE213; clear hb hbox hg))
 repeat (go_quiet (first | ((with_reducible refine gate_dst (N := 3) rfl ?_); refine box_event ?hg (N := 3) ?hd (cs := #[.string a1_0, .string a1_1]) (t := 24) ?hr ?_; (case hd => rfl); (case hg => rfl); (case hr => first | (go_simp; done) | (go_simp; rfl)); intro gb213 hg w3 hbox hb; have n0_ := bs HB hb; have n1_ := Aside0.mk (hbox); have n2_ := gz hg HB; have n3_ := gz hg HB; revert n0_ n1_ n2_ n3_; clear HB; intro HB BK213 GW213 GE213; clear hb hbox hg)); try go_wp2_with (first | ((with_reducible refine gate_dst (N := 3) rfl ?_); refine box_event ?hg (N := 3) ?hd (cs := #[.string a1_0, .string a1_1]) (t := 24) ?hr ?_; (case hd => rfl); (case hg => rfl); (case hr => first | (go_simp; done) | (go_simp; rfl)); intro gb213 hg w3 hbox hb; have n0_ := bs HB hb; have n1_ := Aside0.mk (hbox); have n2_ := gz hg HB; have n3_ := gz hg HB; revert n0_ n1_ n2_ n3_; clear HB; intro HB BK213 GW213 GE213; clear hb hbox hg)))
 go_loopg [8] k (fun kq v8 w' => ∃ (x8_1 : Int), v8 = .int .i64 x8_1 ∧ Aside0 (api_Node_139.l0 kq l0 (l0.length : Int) x8_1 a1_0 a1_1 = some r) ∧ Aside0 (kq ≤ k) ∧ Aside0 (w'.heap[gb213]? = some (.cells #[.string a1_0, .string a1_1] 24 (0, 0))) ∧ Aside0 (Below w.heap.size w w'))
 case atStart => exact ⟨(0), (by first | rfl | (simp; done) | (simp [*]; done)), H', ⟨Nat.le_refl _⟩, ⟨by (with_reducible repeat (first | refine blk_drewN ?_ _ | refine blk_drew ?_ | refine blk_alloc ?_ _)); exact BK213.out⟩, ⟨ba HB⟩⟩
 case round =>
  clear H'
  try clear c1
  try clear p2
  obtain ⟨x8_1, rfl, HA, HK1, BK213, HB⟩ := hrel
  cases gk with
  | zero => exact absurd HA.out (by simp [api_Node_139.l0])
  | succ k1 =>
   have H := HA.out
   clear HA
   simp only [api_Node_139.l0] at H
   by_cases c4 : x8_1 < (l0.length : Int)
   ·rw [if_pos c4] at H
    have c4b0 : decide (x8_1 < (l0.length : Int)) = true := decide_eq_true c4
    clear c4
    by_cases c5 : 0 ≤ x8_1
    ·rw [if_pos c5] at H
     have c5b0 : decide (0 ≤ x8_1) = true := decide_eq_true c5
     clear c5
     by_cases c6 : x8_1 < (l0.length : Int)
     ·rw [if_pos c6] at H
      have c6b0 : decide (x8_1 < (l0.length : Int)) = true := decide_eq_true c6
      clear c6
      by_cases c7 : (a1_0.toList == (((rd_T24 l0 x8_1).f0).toList) && (a1_1.toList == (((rd_T24 l0 x8_1).f1).toList))) = true
      ·rw [if_pos c7] at H
       have c7b0 : (a1_0.toList == (((rd_T24 l0 x8_1).f0).toList) && (a1_1.toList == (((rd_T24 l0 x8_1).f1).toList))) = true := c7
       (try (have c7b1 : decide (a1_0.toList = (((rd_T24 l0 x8_1).f0).toList) && (a1_1.toList == (((rd_T24 l0 x8_1).f1).toList))) = true := by simpa using c7))
       (try (have c7b2 : (a1_0.toList == (((rd_T24 l0 x8_1).f0).toList) && (a1_1.toList == (((rd_T24 l0 x8_1).f1).toList))) = true := by simpa using c7))
       clear c7
       obtain rfl := Option.some.inj H
       have hcz8_0 := bc BK213 0
       have hcz8_1 := bc BK213 1
       have hfz8_0 := bf BK213 0
       have hfz8_1 := bf BK213 1
       have p214 : 0 ≤ (x8_1 : Int) := of_decide_eq_true (by first | (with_reducible assumption) | assumption)
       have q214 : x8_1 < (l0.length : Int) := of_decide_eq_true (by first | (with_reducible assumption) | assumption)
       obtain ⟨ad214, e214, hx214_0, hx214_1⟩ := at_T24 HR0.out x8_1 p214 q214
       cases e214
       replace hx214_0 := (HB.out.cell (World.block_lt_of_cell? w _ hx214_0)).trans hx214_0
       replace hx214_1 := (HB.out.cell (World.block_lt_of_cell? w _ hx214_1)).trans hx214_1
       replace p214 := eq_true p214
       replace q214 := eq_true q214
       go_wp2
       repeat (go_quiet (fail); try go_wp2)
       go_ret
       exact ⟨by first | rfl | (simp [errW_none, errW_some] <;> rfl) | (simp [*, errW_none, errW_some] <;> rfl), ba HB⟩
      ·rw [if_neg c7] at H
       have c7b0 : (a1_0.toList == (((rd_T24 l0 x8_1).f0).toList) && (a1_1.toList == (((rd_T24 l0 x8_1).f1).toList))) = false := by simpa using c7
       (try (have c7b1 : decide (a1_0.toList = (((rd_T24 l0 x8_1).f0).toList) && (a1_1.toList == (((rd_T24 l0 x8_1).f1).toList))) = false := by simpa using c7))
       (try (have c7b2 : (a1_0.toList == (((rd_T24 l0 x8_1).f0).toList) && (a1_1.toList == (((rd_T24 l0 x8_1).f1).toList))) = false := by simpa using c7))
       (try (have c7b3 : ¬ (a1_0.toList = (((rd_T24 l0 x8_1).f0).toList) && (a1_1.toList == (((rd_T24 l0 x8_1).f1).toList))) := by simpa using c7))
       clear c7
       have H' := Aside0.mk H
       clear H
       have hcz9_0 := bc BK213 0
       have hcz9_1 := bc BK213 1
       have hfz9_0 := bf BK213 0
       have hfz9_1 := bf BK213 1
       have p214 : 0 ≤ (x8_1 : Int) := of_decide_eq_true (by first | (with_reducible assumption) | assumption)
       have q214 : x8_1 < (l0.length : Int) := of_decide_eq_true (by first | (with_reducible assumption) | assumption)
       obtain ⟨ad214, e214, hx214_0, hx214_1⟩ := at_T24 HR0.out x8_1 p214 q214
       cases e214
       replace hx214_0 := (HB.out.cell (World.block_lt_of_cell? w _ hx214_0)).trans hx214_0
       replace hx214_1 := (HB.out.cell (World.block_lt_of_cell? w _ hx214_1)).trans hx214_1
       replace p214 := eq_true p214
       replace q214 := eq_true q214
       go_wp2
       repeat (go_quiet (fail); try go_wp2)
       go_roundg k1
       case measure => have := HK1.out; omega
       case rel => exact ⟨(wrap64 (x8_1 + 1)), (by first | rfl | (simp; done) | (simp [*]; done)), H', ⟨by have := HK1.out; omega⟩, ⟨by (with_reducible repeat (first | refine blk_drewN ?_ _ | refine blk_drew ?_ | refine blk_alloc ?_ _)); exact BK213.out⟩, ⟨ba HB⟩⟩
     ·rw [if_neg c6] at H
      exact absurd H (by simp)
    ·rw [if_neg c5] at H
     exact absurd H (by simp)
   ·rw [if_neg c4] at H
    have c4b0 : decide (x8_1 < (l0.length : Int)) = false := decide_eq_false c4
    clear c4
    obtain rfl := Option.some.inj H
    go_wp2
    repeat (go_quiet (fail); try go_wp2)
    go_ret
    exact ⟨by first | rfl | (simp [errW_none, errW_some] <;> rfl) | (simp [*, errW_none, errW_some] <;> rfl), ba HB⟩
end Go.Proofs.YtjfcmkddeglghaaGreatDoor.G
end
section
namespace Go.Proofs.YtjfcmkddeglghaaGreatDoor.G
open Go.RowKit Go.Proofs.YtjfcmkddeglghaaGreatDoorW.PrintWords Go.Proofs.YtjfcmkddeglghaaGreatDoorW.PrintLast Go.Proofs.YtjfcmkddeglghaaGreatDoorW.PrintMore
attribute [local go_sem] max2_int min2_int max_two min_two max_three min_three max_four min_four
set_option linter.unusedVariables false
set_option linter.unusedSimpArgs false
def api_Node_111.f (k : Nat) (l0 : List (S24)) (a1_0 : ByteArray) (a1_1 : ByteArray) : Option (Bool) := (api_Node_139.f k l0 a1_0 a1_1).bind fun t216 => (some (decide (t216 ≥ 0)))
theorem api_Node_111.mono : ∀ a0 a1 a2 k, LeO (api_Node_111.f k a0 a1 a2) (api_Node_111.f (k + 1) a0 a1 a2) := by
 intro a0 a1 a2 k
 unfold api_Node_111.f
 repeat' first
   | (with_reducible exact api_Node_139.mono _ _ _ _)
   | (with_reducible exact LeO.refl _)
   | (with_reducible exact LeO.none _)
   | (with_reducible refine LeO.ite ?_ ?_)
   | (with_reducible refine LeO.bind ?_ (fun _ => ?_))
   | exact api_Node_139.mono _ _ _ _
   | exact LeO.none _
   | refine LeO.ite ?_ ?_
   | refine LeO.bind ?_ (fun _ => ?_)
set_option maxHeartbeats 8000000 in
set_option maxRecDepth 100000 in
theorem api_Node_111.calls (k : Nat) (A0 : Option Addr) (c0 : Nat) (l0 : List (S24)) (a1_0 : ByteArray) (a1_1 : ByteArray) (r : Bool) (w : World) (hr0 : Kd.C k24 w A0 l0.length l0) (hc0 : l0.length ≤ c0) (h : api_Node_111.f k l0 a1_0 a1_1 = some r) :
  Calls Tryz.prog 111 #[.slice A0 l0.length c0, .agg #[.string a1_0, .string a1_1]] w fun e w' => e = .returned (.bool r) ∧ Below w.heap.size w w' := by
 have hu24 := Tryz.underlying24
 have HR0 := Aside0.mk hr0
 have HC0 := Aside0.mk hc0
 clear hr0 hc0
 have HB := Aside0.mk (Below.refl w.heap.size w)
 have H : ((api_Node_139.f k l0 a1_0 a1_1).bind fun t216 => (some (decide (t216 ≥ 0)))) = some r := h
 clear h
 obtain ⟨t216, A3, H⟩ := bo H
 obtain rfl := Option.some.inj H
 go_enter Tryz.func111, Tryz.ntmps111
 go_wp2_with (first | ((with_reducible refine gate_dst (N := 3) rfl ?_); refine box_event ?hg (N := 3) ?hd (cs := #[.string a1_0, .string a1_1]) (t := 24) ?hr ?_; (case hd => rfl); (case hg => rfl); (case hr => first | (go_simp; done) | (go_simp; rfl)); intro gb215 hg w4 hbox hb; have n0_ := bs HB hb; have n1_ := Aside0.mk (hbox); have n2_ := gz hg HB; have n3_ := gz hg HB; revert n0_ n1_ n2_ n3_; clear HB; intro HB BK215 GW215 GE215; clear hb hbox hg; have hcz5_0 := bc BK215 0; have hcz5_1 := bc BK215 1; have hfz5_0 := bf BK215 0; have hfz5_1 := bf BK215 1) | ((with_reducible refine gate_callee (f := 139) rfl ?_); refine gl 7 Tryz.func139 #[.slice A0 l0.length c0, .agg #[.string a1_0, .string a1_1]] ?_; (with_reducible refine (api_Node_139.calls k _ _ l0 a1_0 a1_1 t216 _ ?side1 ?side2 A3.out).mono ?_); (case side1 => repeat (first | exact (Kd.C_below HR0.out HB.out) | (with_reducible refine Kd.C_alloc ?_ _) | (with_reducible refine Kd.C_drewN ?_ _) | (with_reducible refine Kd.C_drew ?_))); (case side2 => exact HC0.out); rintro e w6 ⟨rfl, hb⟩; refine ⟨_, rfl, ?_⟩; have n0_ := bb BK215 hb; have n1_ := bs HB hb; revert n0_ n1_; clear BK215 HB; intro BK215 HB; (try clear hb)))
 go_ret
 exact ⟨by first | rfl | (simp [errW_none, errW_some] <;> rfl) | (simp [*, errW_none, errW_some] <;> rfl), ba HB⟩
end Go.Proofs.YtjfcmkddeglghaaGreatDoor.G
end
section
namespace Go.Proofs.YtjfcmkddeglghaaGreatDoor.G
open Go.RowKit Gw Go.Proofs.YtjfcmkddeglghaaGreatDoorW.PrintWords Go.Proofs.YtjfcmkddeglghaaGreatDoorW.PrintLast Go.Proofs.YtjfcmkddeglghaaGreatDoorW.PrintMore
set_option linter.unusedVariables false
set_option linter.unusedSimpArgs false
def idxN (x : MNode) : List MNode → Nat → Int
  | [], _ => -1
  | p :: l, i => if sameN x p then (i : Int) else idxN x l (i + 1)
theorem idxN_nonneg (x : MNode) : ∀ (l : List MNode) (i : Nat), decide (idxN x l i ≥ 0) = l.any (sameN x) := by
  intro l
  induction l with
  | nil => intro i; rfl
  | cons p l ih =>
    intro i
    unfold idxN
    rw [List.any_cons]
    cases sameN x p
    · simpa using ih (i + 1)
    · simp
theorem index_node_loop (l : List MNode) (x : MNode) (hl : l.length < 9223372036854775807) : ∀ n i, i + n = l.length →
    Ev (fun k => api_Node_139.l0 k l (l.length : Int) (i : Int) x.f0 x.f1) (idxN x (l.drop i) i) := by
  intro n
  induction n with
  | zero =>
    intro i hi
    refine Ev.succ ?_
    simp only [api_Node_139.l0]
    refine Ev.neg (by omega) (Ev.some_eq ?_)
    rw [List.drop_of_length_le (by omega)]
    rfl
  | succ n ih =>
    intro i hi
    have hil : i < l.length := by omega
    refine Ev.succ ?_
    simp only [api_Node_139.l0]
    refine Ev.pos (by omega) (Ev.pos (by omega) (Ev.pos (by omega) ?_))
    have hr : rd_T24 l (i : Int) = l[i] := rdOf_at _ l i hil
    rw [hr, drop_at _ _ hil]
    unfold idxN
    by_cases h : sameN x l[i] = true
    · rw [if_pos h]
      exact Ev.pos h (Ev.some_ _)
    · rw [if_neg h]
      refine Ev.neg h ?_
      rw [w64n i (by omega)]
      exact ih (i + 1) (by omega)
theorem contains_node_ev (l : List MNode) (x : MNode) (hl : l.length < 9223372036854775807) : Ev (fun k => api_Node_111.f k l x.f0 x.f1) (l.any (sameN x)) := by
  unfold api_Node_111.f
  refine Ev.bind (index_node_loop l x hl _ 0 (Nat.zero_add _)) (Ev.some_eq ?_)
  exact idxN_nonneg x _ _
end Go.Proofs.YtjfcmkddeglghaaGreatDoor.G
end
section
namespace Go.Proofs.YtjfcmkddeglghaaGreatDoor.G
open Go.RowKit Gw Go.Proofs.YtjfcmkddeglghaaGreatDoorW.PrintWords Go.Proofs.YtjfcmkddeglghaaGreatDoorW.PrintLast Go.Proofs.YtjfcmkddeglghaaGreatDoorW.PrintMore
open Go.ChangeMaps (setBlock)
set_option linter.unusedVariables false
set_option linter.unusedSimpArgs false
theorem MapIs.below {w w' : World} {B : Nat} {l : DMap} (h : MapIs w B l) (hb : Below w.heap.size w w') : MapIs w' B l := (hb.block _ (Array.getElem?_eq_some_iff.1 h).1).trans h
theorem innerD_lengths' (l : List SNeed) (d : Int) (level : List SNode) : ∀ st : DMap × List SNode, (l.foldl (stepD d level) st).2.length ≤ st.2.length + l.length := by
  induction l with
  | nil => intro st; simp
  | cons x l ih =>
    intro st
    rw [List.foldl_cons]
    have := ih (stepD d level st x)
    have h2 : (stepD d level st x).2.length ≤ st.2.length + 1 := by unfold stepD; split <;> simp
    simp only [List.length_cons]
    omega
structure DSt (w : World) (B : Nat) (out : DMap) (v4 : Value) (level : List SNode) (v6 : Value) (next : List SNode) (wx : World) : Prop where
  m : MapIs wx B out
  lv : Kd.R k24 24 wx B (fun k => B < k ∧ some k ≠ v6.ownBlock) v4 level
  nx : Kd.R k24 24 wx B (fun k => B < k) v6 next
  b : Below w.heap.size w wx
  s : B < wx.heap.size
section
variable {w wr w3 w5 : World} {out q : DMap} {v4 v6 v1 : Value} {level next : List SNode} {p : SNode}
theorem DSt.calm (h : DSt w w.heap.size out v4 level v6 next wr) (hb : Below wr.heap.size wr w3) : DSt w w.heap.size out v4 level v6 next w3 :=
  ⟨h.m.below hb, Kd.R_below h.lv hb, Kd.R_below h.nx hb, below_then h.b h.b.size hb, Nat.lt_of_lt_of_le h.s hb.size⟩
theorem below_setBlock (w : World) (B : Nat) (o : Obj) : Below B w (setBlock w B o) := by
  refine ⟨rfl, rfl, rfl, by simp [setBlock], fun k hk => ?_⟩
  simp only [setBlock]
  rw [Array.getElem?_setIfInBounds_ne (by omega)]
theorem DSt.upd (h : DSt w w.heap.size out v4 level v6 next w3) (q : DMap) : DSt w w.heap.size q v4 level v6 next (setBlock w3 w.heap.size (.map (ents q).toArray q.length)) := by
  have hB : w3.heap[w.heap.size]? = some (.map (ents out).toArray out.length) := h.m
  refine ⟨Go.ChangeMaps.heap_setBlock_same hB _, Kd.R_move h.lv (fun k hk => ?_), Kd.R_move h.nx (fun k hk => ?_), h.b.trans (below_setBlock _ _ _), by have := h.s; simpa [setBlock] using this⟩
  · exact Go.ChangeMaps.heap_setBlock_other hB _ (by have := hk.1; omega)
  · exact Go.ChangeMaps.heap_setBlock_other hB _ (by omega)
theorem DSt.app (h : DSt w w.heap.size out v4 level v6 next w3) (ho : Kd.R k24 24 w5 w.heap.size (fun k => w.heap.size < k) v1 (next ++ [p])) (hb : Below w.heap.size w w5) (hg : w3.grownBy w5 v6.ownBlock)
    (hat : v1.ownBlock = v6.ownBlock ∨ ∃ b, v1.ownBlock = some b ∧ w3.heap.size ≤ b) : DSt w w.heap.size out v4 level v1 (next ++ [p]) w5 := by
  refine ⟨(hg.block _ h.s ?_).trans h.m, ?_, ho, hb, Nat.lt_of_lt_of_le h.s hg.size⟩
  · intro e
    have := h.nx.1 _ e.symm
    omega
  · refine Kd.R_mono (Kd.R_grown (Kd.R_bound h.lv) hg (fun k hk => hk.1.2)) (fun k hk => ⟨hk.1.1, ?_⟩)
    rcases hat with hat | ⟨b, hb1, hb2⟩
    · rw [hat]; exact hk.1.2
    · rw [hb1]
      intro e
      injection e with e
      have := hk.2.2.1
      omega
end
set_option maxHeartbeats 1000000 in
set_option maxRecDepth 1000000 in
theorem why_depths_calls (A0 : Option Addr) (c0 : Nat) (l : List SNeed) (r : DMap) (w : World) (hbig : l.length < 1099511627776) (hr : Kd.C k49 w A0 l.length l) (h : outerD l (l.length + 2) 1 [⟨⟨#[]⟩, ⟨#[]⟩⟩] [] = some r) :
    Calls Tryz.prog 72 #[.slice A0 l.length c0] w fun e w' => e = .returned (.map (some w.heap.size)) ∧ MapIs w' w.heap.size r ∧ Below w.heap.size w w' := by
  have hmm := @run_makeMap Tryz.prog
  have HR := Aside0.mk hr
  have H := Aside0.mk h
  clear hr h
  go_enter Tryz.func72, Tryz.ntmps72
  go_wp2
  have S0 : DSt w w.heap.size [] (.slice (some ⟨w.heap.size + 1, 0, none⟩) 1 1) [⟨⟨#[]⟩, ⟨#[]⟩⟩] (.slice none 0 0) [] ((w.alloc (.map #[] 0)).alloc (.cells #[.string ⟨#[]⟩, .string ⟨#[]⟩] 24)) := by
    refine ⟨?_, ?_, Kd.R_nil _ _ _ _ _, ?_, by simp; omega⟩
    · show ((w.alloc (.map #[] 0)).alloc _).heap[w.heap.size]? = _
      rw [Below.heap_alloc _ _ _ (by simp)]
      exact heap_alloc_new _ _
    · have h1 := R_lit0 k24 (fun x : SNode => [.string x.f0, .string x.f1]) (fun w base ok x => k24_mkM w base ok x) 24 (w.alloc (.map #[] 0)) w.heap.size [⟨⟨#[]⟩, ⟨#[]⟩⟩] (fun k => w.heap.size < k ∧ some k ≠ (Value.slice none 0 0).ownBlock) (by simp) (by simp) ⟨by simp, by simp [Value.ownBlock]⟩
      simpa using h1
    · exact ((Below.refl _ _).alloc (Nat.le_refl _) _).alloc (by simp) _
  have HS := Aside0.mk S0
  clear S0
  go_loopg [4, 5] (l.length + 2) (fun g v4 v5 wx => ∃ (level : List SNode) (out : DMap) (d : Nat), v5 = .int .i64 d ∧ d + g ≤ l.length + 3 ∧ level.length ≤ l.length + 1 ∧ Aside0 (outerD l g d level out = some r) ∧ Aside0 (DSt w w.heap.size out v4 level (.slice none 0 0) [] wx))
  case atStart => exact ⟨_, [], 1, rfl, by omega, by simp, H, HS⟩
  case round =>
    obtain ⟨level, out, d, rfl, hd, hlb, HO, HS⟩ := hrel
    obtain ⟨A, c, rfl, hlc, hC⟩ := Kd.R_reads HS.out.lv
    have HC := Aside0.mk hC
    clear hC
    cases gk with
    | zero => exact absurd HO.out (by simp [outerD])
    | succ g =>
      have ho := HO.out
      unfold outerD at ho
      by_cases hl : level = []
      · rw [if_pos hl] at ho
        have hz : ¬ ((0 : Int) < (level.length : Int)) := by rw [hl]; simp
        have HE := Aside0.mk (Option.some.inj ho)
        clear ho hl
        go_wp2
        go_ret
        exact ⟨rfl, HE.out ▸ HS.out.m, HS.out.b⟩
      · rw [if_neg hl] at ho
        have hz : (0 : Int) < (level.length : Int) := by have := List.length_pos_iff.2 hl; omega
        have hzn : 0 < level.length := List.length_pos_iff.2 hl
        have HE := Aside0.mk ho
        clear ho hl
        go_wp2
        go_loopg [6, 8, 9, 10, 21] l.length (fun gg v6 v8 v9 v10 v21 wx => ∃ i : Nat, i + gg = l.length ∧ v21 = .int .i64 i ∧ Aside0 (DSt w w.heap.size ((l.take i).foldl (stepD d level) (out, [])).1 (.slice A level.length c) level v6 ((l.take i).foldl (stepD d level) (out, [])).2 wx))
        case atStart => exact ⟨0, by omega, rfl, HS⟩
        case round =>
          obtain ⟨i, hig, rfl, HD⟩ := hrel
          cases gk with
          | zero =>
            obtain rfl : i = l.length := by omega
            have hiz : ¬ ((l.length : Int) < (l.length : Int)) := by omega
            go_wp2
            go_roundg g
            case measure => omega
            case rel =>
              have e := List.take_length (l := l)
              rw [e] at HD
              exact ⟨_, _, d + 1, by go_num, by omega, by have := innerD_lengths' l d level (out, []); unfold innerD; simpa using Nat.le_succ_of_le this, HE, ⟨⟨HD.out.m, Kd.R_mono HD.out.nx (fun k hk => ⟨hk, by simp [Value.ownBlock]⟩), Kd.R_nil _ _ _ _ _, HD.out.b, HD.out.s⟩⟩⟩
          | succ gg =>
            have hi : i < l.length := by omega
            have hiz : (i : Int) < (l.length : Int) := by omega
            obtain ⟨ad, ea, q0, q1, q2, q3⟩ := at_T49 HR.out (i : Int) (by omega) hiz
            cases ea
            have hx : rd_T49 l (i : Int) = l[i] := rdOf_at _ _ _ hi
            rw [hx] at q0 q1 q2 q3
            replace q0 := (HD.out.b.cell (World.block_lt_of_cell? w _ q0)).trans q0
            replace q1 := (HD.out.b.cell (World.block_lt_of_cell? w _ q1)).trans q1
            replace q2 := (HD.out.b.cell (World.block_lt_of_cell? w _ q2)).trans q2
            replace q3 := (HD.out.b.cell (World.block_lt_of_cell? w _ q3)).trans q3
            simp only [Int.toNat_natCast] at q0 q1 q2 q3
            have HT : Aside0 (l.take (i + 1) = l.take i ++ [l[i]]) := ⟨by rw [List.take_add_one, List.getElem?_eq_getElem hi]; rfl⟩
            clear hx
            generalize l[i] = x at q0 q1 q2 q3 HT
            generalize hst : (l.take i).foldl (stepD d level) (out, []) = st at HD
            have HST := Aside0.mk hst
            clear hst
            have hlk := fun o => run_lookup_ok x.f1 (World.alloc _ o) w.heap.size st.1 (HD.out.m.below ((Below.refl _ _).alloc (Nat.le_refl _) o))
            simp only [keyV] at hlk
            cases hlook : lookM st.1 x.f1 with
            | some v =>
              rw [hlook] at hlk
              have HL := Aside0.mk hlook
              clear hlook
              simp only [Option.isSome_some, Option.getD_some] at hlk
              go_wp2
              go_roundg gg
              case measure => omega
              case rel =>
                refine ⟨i + 1, by omega, by go_num, ⟨?_⟩⟩
                rw [HT.out, List.foldl_append, HST.out]
                have e : stepD d level st x = st := by unfold stepD; rw [HL.out]; simp
                simp only [List.foldl_cons, List.foldl_nil]
                rw [e]
                exact HD.out.calm ((Below.refl _ _).alloc (Nat.le_refl _) _)
            | none =>
              rw [hlook] at hlk
              have HL := Aside0.mk hlook
              clear hlook
              simp only [Option.isSome_none, Option.getD_none] at hlk
              have hcon : ∀ o, Calls Tryz.prog 111 #[.slice A level.length c, .agg #[.string x.f0.f0, .string x.f0.f1]] (wr.alloc o) fun e w' => e = .returned (.bool (level.any (sameN x.f0))) ∧ Below (wr.alloc o).heap.size (wr.alloc o) w' := by
                intro o
                obtain ⟨A', c', hv, hc', hC'⟩ := Kd.R_reads HD.out.lv
                cases hv
                obtain ⟨k, hk⟩ := (contains_node_ev level x.f0 (by omega)).get
                exact api_Node_111.calls k A c level x.f0.f0 x.f0.f1 _ _ (Kd.C_below hC' ((Below.refl _ _).alloc (Nat.le_refl _) o)) hlc hk
              cases hany : level.any (sameN x.f0)
              · rw [hany] at hcon
                have HA := Aside0.mk hany
                clear hany
                go_wp2_with (first | (go_at_call 111; (with_reducible refine (hcon _).mono ?_); rintro e w3 ⟨rfl, hb3⟩))
                go_roundg gg
                case measure => omega
                case rel =>
                  refine ⟨i + 1, by omega, by go_num, ⟨?_⟩⟩
                  rw [HT.out, List.foldl_append, HST.out]
                  have e : stepD d level st x = st := by unfold stepD; rw [HL.out, HA.out]; simp
                  simp only [List.foldl_cons, List.foldl_nil]
                  rw [e]
                  exact HD.out.calm (below_then ((Below.refl wr.heap.size wr).alloc (Nat.le_refl _) _) (by simp) hb3)
              · rw [hany] at hcon
                have HA := Aside0.mk hany
                clear hany
                go_wp2_with fail
                refine (hcon _).mono ?_
                rintro e w3 ⟨rfl, hb3⟩
                have hn := (hb3.block wr.heap.size (by simp)).trans (heap_alloc_new wr _)
                have b2 := cell_of_row w3 wr.heap.size 2 _ _ _ hn
                have b3 := cell_of_row w3 wr.heap.size 3 _ _ _ hn
                simp only [List.getElem?_toArray, List.getElem?_cons_zero, List.getElem?_cons_succ] at b2 b3
                have HB3 := Aside0.mk (HD.out.calm (below_then ((Below.refl wr.heap.size wr).alloc (Nat.le_refl _) _) (by simp) hb3))
                clear hb3
                have hup := run_update_new x.f1 (d : Int) w3 w.heap.size st.1 HB3.out.m HL.out
                simp only [keyV] at hup
                have HU := Aside0.mk (HB3.out.upd (st.1 ++ [(x.f1, (d : Int))]))
                have hn4 := (Go.ChangeMaps.heap_setBlock_other (show w3.heap[w.heap.size]? = _ from HB3.out.m) (.map (ents (st.1 ++ [(x.f1, (d : Int))])).toArray (st.1 ++ [(x.f1, (d : Int))]).length) (i := wr.heap.size) (by have := HD.out.s; omega)).trans hn
                generalize setBlock w3 w.heap.size (.map (ents (st.1 ++ [(x.f1, (d : Int))])).toArray (st.1 ++ [(x.f1, (d : Int))]).length) = w4 at hup HU hn4
                have d2 := cell_of_row w4 wr.heap.size 2 _ _ _ hn4
                have d3 := cell_of_row w4 wr.heap.size 3 _ _ _ hn4
                simp only [List.getElem?_toArray, List.getElem?_cons_zero, List.getElem?_cons_succ] at d2 d3
                clear hn hn4
                have HLEN : Aside0 (st.2.length ≤ l.length) := ⟨by
                  have := innerD_lengths' (l.take i) d level (out, [])
                  rw [HST.out] at this
                  have := List.length_take_le i l
                  simp at *
                  omega⟩
                go_wp2_with (first | ((with_reducible refine gate_builtin (b := .append) (xs := #[.tmp 44, .tmp 47]) rfl ?_); at_builtin; refine Kd.R_append k24 (w0 := w) w.heap.size rfl (.tmp 44) (.tmp 47) 31 24 (.agg #[(.string ⟨#[]⟩), (.string ⟨#[]⟩)]) 32 rfl Tryz.underlying31 info24 rfl (by decide) (by omega) u6 st.2 x.f1 [.string x.f1.f0, .string x.f1.f1] (fun k => w.heap.size < k) (fun _ => False) rfl rfl ?aP (fun _ hk => hk.elim) ?aF ?aO ?aB ?aS ?aL ?_; (case aP => exact k24_mkM _ _ _ x.f1); (case aF => exact (fun k hk => by have := HU.out.s; omega)); (case aO => exact HU.out.nx); (case aB => exact HU.out.b); (case aS => exact HU.out.b.size); (case aL => have := HLEN.out; omega); intro v1 w5 ho hb hg hat; have HO5 := Aside0.mk (HU.out.app ho hb hg hat); clear ho hb hg hat))
                go_roundg gg
                case measure => omega
                case rel =>
                  refine ⟨i + 1, by omega, by go_num, ⟨?_⟩⟩
                  rw [HT.out, List.foldl_append, HST.out]
                  have e : stepD d level st x = (st.1 ++ [(x.f1, (d : Int))], st.2 ++ [x.f1]) := by unfold stepD; rw [HL.out, HA.out]; simp
                  simp only [List.foldl_cons, List.foldl_nil]
                  rw [e]
                  exact HO5.out
end Go.Proofs.YtjfcmkddeglghaaGreatDoor.G
end
section
namespace Go.Proofs.YtjfcmkddeglghaaGreatDoor.G
open Go.RowKit Gw Go.Proofs.YtjfcmkddeglghaaGreatDoorW.PrintWords Go.Proofs.YtjfcmkddeglghaaGreatDoorW.PrintLast
open Go.ChangeMaps (setBlock)
set_option linter.unusedVariables false
set_option linter.unusedSimpArgs false
def lf (l : DMap) (seen : Array Nat) : Nat := (leftOf (ents l).toArray seen).size
theorem ents_mem {l : DMap} {e : MapEntry} (h : e ∈ ents l) : ∃ (i : Nat) (hi : i < l.length), e = entAt l[i] i := by
  unfold ents at h
  obtain ⟨⟨p, i⟩, h1, rfl⟩ := List.mem_map.1 h
  obtain ⟨h2, h3⟩ := List.mem_zipIdx_iff_getElem?.1 h1 |> fun h => List.getElem?_eq_some_iff.1 h
  exact ⟨i, h2, by rw [h3]⟩
theorem mem_ents (l : DMap) (i : Nat) (hi : i < l.length) : entAt l[i] i ∈ ents l := by
  unfold ents
  exact List.mem_map.2 ⟨(l[i], i), List.mem_zipIdx_iff_getElem?.2 (List.getElem?_eq_getElem hi), rfl⟩
theorem ents_born (l : DMap) : (ents l).map (·.born) = List.range l.length := by
  unfold ents
  rw [List.map_map]
  have : (fun e : MapEntry => e.born) ∘ (fun q : (MNode × Int) × Nat => entAt q.1 q.2) = Prod.snd := rfl
  rw [this, List.zipIdx_map_snd, List.range_eq_range']
theorem ents_length (l : DMap) : (ents l).length = l.length := by unfold ents; simp
theorem lf_start (l : DMap) : lf l #[] ≤ l.length := by
  unfold lf leftOf
  refine Nat.le_trans Array.size_filter_le ?_
  rw [List.size_toArray, ents_length]
  exact Nat.le_refl _
theorem next_nodes (w : World) (rb B : Nat) (l : DMap) (seen : Array Nat) (hit : w.heap[rb]? = some (.mapIter (some B) l.length seen l.length)) (hm : MapIs w B l) :
    (lf l seen = 0 ∧ ∀ ty, (Instr.next (.pointer (some ⟨rb, 0, none⟩)) false ty).run Tryz.prog w = .ok (.tuple #[.bool false]) w) ∨
    ∃ (i : Nat) (hi : i < l.length) (w2 : World), seen.contains i = false ∧ lf l (seen.push i) < lf l seen ∧ w2.heap[rb]? = some (.mapIter (some B) l.length (seen.push i) l.length) ∧ (∀ k : Nat, k ≠ rb → w2.heap[k]? = w.heap[k]?) ∧ Below rb w w2 ∧
      (∀ ty, (Instr.next (.pointer (some ⟨rb, 0, none⟩)) false ty).run Tryz.prog w = .ok (.tuple #[.bool true, .agg #[.string l[i].1.f0, .string l[i].1.f1], .int .i64 l[i].2]) w2) ∧
      (Instr.entry (.pointer (some ⟨rb, 0, none⟩))).run Tryz.prog w2 = .ok (.tuple #[.agg #[.string l[i].1.f0, .string l[i].1.f1], .int .i64 l[i].2]) w2 := by
  have hb : w.heap[B]? = some (.map (ents l).toArray l.length) := hm
  have hne : B ≠ rb := by rintro rfl; rw [hb] at hit; cases hit
  have hold : ∀ x ∈ (ents l).toArray.toList, x.born < l.length := by
    intro x hx
    obtain ⟨i, hi, rfl⟩ := ents_mem (by simpa using hx)
    exact hi
  have h := fun ty => run_next_at (P := Tryz.prog) w ty rb B l.length l.length seen (ents l).toArray l.length hit hb hold (Nat.le_refl _)
  by_cases h0 : (leftOf (ents l).toArray seen).size = 0
  · refine .inl ⟨h0, fun ty => ?_⟩
    rcases h ty with ⟨_, h1⟩ | ⟨e, he, _⟩
    · exact h1
    · have : leftOf (ents l).toArray seen = #[] := Array.eq_empty_of_size_eq_zero h0
      rw [this] at he
      simp at he
  · have hty : ∀ ty, (Instr.next (.pointer (some ⟨rb, 0, none⟩)) false ty).run Tryz.prog w = (Instr.next (.pointer (some ⟨rb, 0, none⟩)) false 0).run Tryz.prog w := by
      intro ty
      simp only [Instr.next]
    rcases h 0 with ⟨h1, _⟩ | ⟨e, he, w1, hw1, hrun⟩
    · exact absurd h1 h0
    · obtain ⟨hmem, hseen⟩ := mem_left he
      obtain ⟨i, hi, rfl⟩ := ents_mem (by simpa using hmem)
      have hr1 : w1.heap[rb]? = some (.mapIter (some B) l.length seen l.length) := by rcases hw1 with rfl | rfl <;> exact hit
      have hlt : rb < w1.heap.size := (Array.getElem?_eq_some_iff.1 hr1).1
      have h1b : ∀ k : Nat, w1.heap[k]? = w.heap[k]? := by intro k; rcases hw1 with rfl | rfl <;> rfl
      have hs : (setBlock w1 rb (.mapIter (some B) l.length (seen.push i) l.length)).heap[rb]? = some (.mapIter (some B) l.length (seen.push i) l.length) := by
        simp only [setBlock]
        rw [Array.getElem?_setIfInBounds_self_of_lt hlt]
      have ho : ∀ k : Nat, k ≠ rb → (setBlock w1 rb (.mapIter (some B) l.length (seen.push i) l.length)).heap[k]? = w.heap[k]? := by
        intro k hk
        simp only [setBlock]
        rw [Array.getElem?_setIfInBounds_ne (fun e => hk e.symm), h1b]
      refine .inr ⟨i, hi, setBlock w1 rb (.mapIter (some B) l.length (seen.push i) l.length), hseen, left_shrinks _ _ _ he, hs, ho, ?_, fun ty => by rw [hty]; exact hrun, ?_⟩
      · refine ⟨?_, ?_, ?_, ?_, fun k hk => ho k (by omega)⟩
        · rcases hw1 with rfl | rfl <;> rfl
        · rcases hw1 with rfl | rfl <;> rfl
        · rcases hw1 with rfl | rfl <;> rfl
        · simp only [setBlock, Array.size_setIfInBounds]
          rcases hw1 with rfl | rfl <;> exact Nat.le_refl _
      · exact run_entry_at (P := Tryz.prog) _ rb B l.length seen (ents l).toArray l.length (entAt l[i] i) hs ((ho B hne).trans hb) (by simpa using mem_ents l i hi) (by
          show ((ents l).map (·.born)).Nodup
          rw [ents_born]
          exact List.nodup_range)
theorem all_met {l : DMap} {seen : Array Nat} (h : lf l seen = 0) (i : Nat) (hi : i < l.length) : seen.contains i = true :=
  all_seen (ents l).toArray seen h (entAt l[i] i) (by simpa using mem_ents l i hi)
def gotD (l : DMap) (seen : Array Nat) : List S46 := seen.toList.map fun i => ⟨(l.getD i (zN, 0)).1, (l.getD i (zN, 0)).2⟩
theorem gotD_push (l : DMap) (seen : Array Nat) (i : Nat) (hi : i < l.length) : gotD l (seen.push i) = gotD l seen ++ [⟨l[i].1, l[i].2⟩] := by
  unfold gotD
  rw [Array.toList_push, List.map_append, List.map_singleton, List.getD_eq_getElem?_getD, List.getElem?_eq_getElem hi]
  rfl
theorem gotD_length (l : DMap) (seen : Array Nat) : (gotD l seen).length = seen.size := by unfold gotD; simp
structure Came (l : DMap) (seen : Array Nat) : Prop where
  lt : ∀ i ∈ seen.toList, i < l.length
  nd : seen.toList.Nodup
theorem Came.push {l : DMap} {seen : Array Nat} (h : Came l seen) {i : Nat} (hi : i < l.length) (hs : seen.contains i = false) : Came l (seen.push i) := by
  have hn : i ∉ seen.toList := fun hm => by
    have : seen.contains i = true := by simpa using hm
    rw [hs] at this
    cases this
  refine ⟨fun j hj => ?_, ?_⟩
  · rw [Array.toList_push, List.mem_append] at hj
    rcases hj with hj | hj
    · exact h.lt j hj
    · rw [List.mem_singleton.1 hj]; exact hi
  · rw [Array.toList_push, List.nodup_append]
    refine ⟨h.nd, by simp, fun a ha b hb e => ?_⟩
    rw [List.mem_singleton.1 hb] at e
    rw [e] at ha
    exact hn ha
theorem Came.mem {l : DMap} {seen : Array Nat} (h : Came l seen) (h0 : lf l seen = 0) (q : S46) : q ∈ gotD l seen ↔ (q.f0, q.f1) ∈ l := by
  unfold gotD
  rw [List.mem_map]
  constructor
  · rintro ⟨i, hi, rfl⟩
    have hl := h.lt i hi
    rw [List.getD_eq_getElem?_getD, List.getElem?_eq_getElem hl]
    exact List.getElem_mem hl
  · intro hq
    obtain ⟨i, hi, e⟩ := List.getElem_of_mem hq
    have hc := all_met h0 i hi
    refine ⟨i, by simpa using hc, ?_⟩
    rw [List.getD_eq_getElem?_getD, List.getElem?_eq_getElem hi]
    obtain ⟨a, b⟩ := q
    simp only [Option.getD_some, e]
theorem Came.sub {l : DMap} {seen : Array Nat} (h : Came l seen) : ∀ q ∈ gotD l seen, (q.f0, q.f1) ∈ l := by
  intro q hq
  unfold gotD at hq
  obtain ⟨i, hi, rfl⟩ := List.mem_map.1 hq
  have hl := h.lt i hi
  rw [List.getD_eq_getElem?_getD, List.getElem?_eq_getElem hl]
  exact List.getElem_mem hl
theorem Came.nodup {l : DMap} {seen : Array Nat} (h : Came l seen) (hn : (l.map Prod.fst).Nodup) : ((gotD l seen).map fun q => q.f0).Nodup := by
  unfold gotD
  rw [List.map_map]
  unfold List.Nodup
  rw [List.pairwise_map]
  have hp := h.nd
  unfold List.Nodup at hp
  refine hp.imp_of_mem ?_
  intro i j hi hj hne e
  have h1 := h.lt i hi
  have h2 := h.lt j hj
  simp only [Function.comp, List.getD_eq_getElem?_getD, List.getElem?_eq_getElem h1, List.getElem?_eq_getElem h2, Option.getD_some] at e
  unfold List.Nodup at hn
  have hp2 := List.pairwise_iff_getElem.1 hn
  rcases Nat.lt_trichotomy i j with hlt | hlt | hlt
  · exact hp2 i j (by simpa using h1) (by simpa using h2) hlt (by rw [List.getElem_map, List.getElem_map]; exact e)
  · exact hne hlt
  · exact hp2 j i (by simpa using h2) (by simpa using h1) hlt (by rw [List.getElem_map, List.getElem_map]; exact e.symm)
end Go.Proofs.YtjfcmkddeglghaaGreatDoor.G
end
