/- For every list of needs and every node WhyTells returns true, as the card says: how far nodes are away, and the chain to a node, are as the document says, or the error is. Condition: when the call begins, utf8.acceptRanges and utf8.first hold what Go's own text lays. (part 3 of its proof) -/
import Derived.Test.YtjfcmkddeglghaaGreatDoorKa1
import Derived.Test.YtjfcmkddeglghaaGreatDoorKa2
section
namespace Go.Proofs.YtjfcmkddeglghaaGreatDoor.G
open Go.RowKit Go.Proofs.YtjfcmkddeglghaaGreatDoorW.PrintWords Go.Proofs.YtjfcmkddeglghaaGreatDoorW.PrintLast Go.Proofs.YtjfcmkddeglghaaGreatDoorW.PrintMore
attribute [local go_sem] max2_int min2_int max_two min_two max_three min_three max_four min_four
set_option linter.unusedVariables false
set_option linter.unusedSimpArgs false
attribute [local go_sem high] eqA24
def r05_Has.l0 : Nat → List (S24) → Int → ByteArray → ByteArray → Option (Bool)
 | 0, _, _, _, _ => none
 | k + 1, x0, x5, x283000, x283001 => if x5 < (x0.length : Int) then (if 0 ≤ x5 then (if ((((rd_T24 x0 x5).f0).toList) == x283000.toList && ((((rd_T24 x0 x5).f1).toList) == x283001.toList)) = true then (some true) else (r05_Has.l0 k x0 (wrap64 (x5 + 1)) x283000 x283001)) else (none)) else (some false)
def r05_Has.f (k : Nat) (l0 : List (S24)) (a1_0 : ByteArray) (a1_1 : ByteArray) : Option (Bool) := r05_Has.l0 k l0 0 a1_0 a1_1
theorem r05_Has.mono_l : ∀ k, (∀ y0 y1 y2 y3, LeO (r05_Has.l0 k y0 y1 y2 y3) (r05_Has.l0 (k + 1) y0 y1 y2 y3))
 | 0 => fun _ _ _ _ r h => by simp [r05_Has.l0] at h
 | k + 1 => by
  have ih0 := r05_Has.mono_l k
  ·intro y0 y1 y2 y3
   unfold r05_Has.l0
   repeat' first
   | (with_reducible exact ih0 _ _ _ _)
   | (with_reducible exact LeO.refl _)
   | (with_reducible exact LeO.none _)
   | (with_reducible refine LeO.ite ?_ ?_)
   | (with_reducible refine LeO.bind ?_ (fun _ => ?_))
   | exact ih0 _ _ _ _
   | exact LeO.none _
   | refine LeO.ite ?_ ?_
   | refine LeO.bind ?_ (fun _ => ?_)
theorem r05_Has.mono : ∀ a0 a1 a2 k, LeO (r05_Has.f k a0 a1 a2) (r05_Has.f (k + 1) a0 a1 a2) := by
 intro a0 a1 a2 k
 have ih0 := r05_Has.mono_l k
 unfold r05_Has.f
 repeat' first
   | (with_reducible exact ih0 _ _ _ _)
   | (with_reducible exact LeO.refl _)
   | (with_reducible exact LeO.none _)
   | (with_reducible refine LeO.ite ?_ ?_)
   | (with_reducible refine LeO.bind ?_ (fun _ => ?_))
   | exact ih0 _ _ _ _
   | exact LeO.none _
   | refine LeO.ite ?_ ?_
   | refine LeO.bind ?_ (fun _ => ?_)
set_option maxHeartbeats 8000000 in
set_option maxRecDepth 100000 in
theorem r05_Has.calls (k : Nat) (A0 : Option Addr) (c0 : Nat) (l0 : List (S24)) (a1_0 : ByteArray) (a1_1 : ByteArray) (r : Bool) (w : World) (hr0 : Kd.C k24 w A0 l0.length l0) (hc0 : l0.length ≤ c0) (h : r05_Has.f k l0 a1_0 a1_1 = some r) :
  Calls Tryz.prog 79 #[.slice A0 l0.length c0, .agg #[.string a1_0, .string a1_1]] w fun e w' => e = .returned (.bool r) ∧ Below w.heap.size w w' := by
 have hu24 := Tryz.underlying24
 have HR0 := Aside0.mk hr0
 have HC0 := Aside0.mk hc0
 clear hr0 hc0
 have HB := Aside0.mk (Below.refl w.heap.size w)
 have H : (r05_Has.l0 k l0 0 a1_0 a1_1) = some r := h
 clear h
 have H' := Aside0.mk H
 clear H
 go_enter Tryz.func79, Tryz.ntmps79
 go_wp2_with (first | ((with_reducible refine gate_dst (N := 3) rfl ?_); refine box_event ?hg (N := 3) ?hd (cs := #[.string a1_0, .string a1_1]) (t := 24) ?hr ?_; (case hd => rfl); (case hg => rfl); (case hr => first | (go_simp; done) | (go_simp; rfl)); intro gb282 hg w3 hbox hb; have n0_ := bs HB hb; have n1_ := Aside0.mk (hbox); have n2_ := gz hg HB; have n3_ := gz hg HB; revert n0_ n1_ n2_ n3_; clear HB; intro HB BK282 GW282 GE282; clear hb hbox hg))
 repeat (go_quiet (first | ((with_reducible refine gate_dst (N := 3) rfl ?_); refine box_event ?hg (N := 3) ?hd (cs := #[.string a1_0, .string a1_1]) (t := 24) ?hr ?_; (case hd => rfl); (case hg => rfl); (case hr => first | (go_simp; done) | (go_simp; rfl)); intro gb282 hg w3 hbox hb; have n0_ := bs HB hb; have n1_ := Aside0.mk (hbox); have n2_ := gz hg HB; have n3_ := gz hg HB; revert n0_ n1_ n2_ n3_; clear HB; intro HB BK282 GW282 GE282; clear hb hbox hg)); try go_wp2_with (first | ((with_reducible refine gate_dst (N := 3) rfl ?_); refine box_event ?hg (N := 3) ?hd (cs := #[.string a1_0, .string a1_1]) (t := 24) ?hr ?_; (case hd => rfl); (case hg => rfl); (case hr => first | (go_simp; done) | (go_simp; rfl)); intro gb282 hg w3 hbox hb; have n0_ := bs HB hb; have n1_ := Aside0.mk (hbox); have n2_ := gz hg HB; have n3_ := gz hg HB; revert n0_ n1_ n2_ n3_; clear HB; intro HB BK282 GW282 GE282; clear hb hbox hg)))
 go_loopg [5] k (fun kq v5 w' => ∃ (x5_1 : Int), v5 = .int .i64 x5_1 ∧ Aside0 (r05_Has.l0 kq l0 x5_1 a1_0 a1_1 = some r) ∧ Aside0 (kq ≤ k) ∧ Aside0 (w'.heap[gb282]? = some (.cells #[.string a1_0, .string a1_1] 24 (0, 0))) ∧ Aside0 (Below w.heap.size w w'))
 case atStart => exact ⟨(0), (by first | rfl | (simp; done) | (simp [*]; done)), H', ⟨Nat.le_refl _⟩, ⟨by (with_reducible repeat (first | refine blk_drewN ?_ _ | refine blk_drew ?_ | refine blk_alloc ?_ _)); exact BK282.out⟩, ⟨ba HB⟩⟩
 case round =>
  clear H'
  try clear p2
  obtain ⟨x5_1, rfl, HA, HK1, BK282, HB⟩ := hrel
  cases gk with
  | zero => exact absurd HA.out (by simp [r05_Has.l0])
  | succ k1 =>
   have H := HA.out
   clear HA
   simp only [r05_Has.l0] at H
   by_cases c4 : x5_1 < (l0.length : Int)
   ·rw [if_pos c4] at H
    have c4b0 : decide (x5_1 < (l0.length : Int)) = true := decide_eq_true c4
    clear c4
    by_cases c5 : 0 ≤ x5_1
    ·rw [if_pos c5] at H
     have c5b0 : decide (0 ≤ x5_1) = true := decide_eq_true c5
     clear c5
     by_cases c6 : ((((rd_T24 l0 x5_1).f0).toList) == a1_0.toList && ((((rd_T24 l0 x5_1).f1).toList) == a1_1.toList)) = true
     ·rw [if_pos c6] at H
      have c6b0 : ((((rd_T24 l0 x5_1).f0).toList) == a1_0.toList && ((((rd_T24 l0 x5_1).f1).toList) == a1_1.toList)) = true := c6
      (try (have c6b1 : decide ((((rd_T24 l0 x5_1).f0).toList) = a1_0.toList && ((((rd_T24 l0 x5_1).f1).toList) == a1_1.toList)) = true := by simpa using c6))
      (try (have c6b2 : ((((rd_T24 l0 x5_1).f0).toList) == a1_0.toList && ((((rd_T24 l0 x5_1).f1).toList) == a1_1.toList)) = true := by simpa using c6))
      clear c6
      obtain rfl := Option.some.inj H
      have p283 : 0 ≤ (x5_1 : Int) := of_decide_eq_true (by first | (with_reducible assumption) | assumption)
      have q283 : x5_1 < (l0.length : Int) := of_decide_eq_true (by first | (with_reducible assumption) | assumption)
      obtain ⟨ad283, e283, hx283_0, hx283_1⟩ := at_T24 HR0.out x5_1 p283 q283
      cases e283
      replace hx283_0 := (HB.out.cell (World.block_lt_of_cell? w _ hx283_0)).trans hx283_0
      replace hx283_1 := (HB.out.cell (World.block_lt_of_cell? w _ hx283_1)).trans hx283_1
      replace p283 := eq_true p283
      replace q283 := eq_true q283
      have hcz7_0 := bc BK282 0
      have hcz7_1 := bc BK282 1
      have hfz7_0 := bf BK282 0
      have hfz7_1 := bf BK282 1
      go_wp2
      repeat (go_quiet (fail); try go_wp2)
      go_ret
      exact ⟨by first | rfl | (simp [errW_none, errW_some] <;> rfl) | (simp [*, errW_none, errW_some] <;> rfl), ba HB⟩
     ·rw [if_neg c6] at H
      have c6b0 : ((((rd_T24 l0 x5_1).f0).toList) == a1_0.toList && ((((rd_T24 l0 x5_1).f1).toList) == a1_1.toList)) = false := by simpa using c6
      (try (have c6b1 : decide ((((rd_T24 l0 x5_1).f0).toList) = a1_0.toList && ((((rd_T24 l0 x5_1).f1).toList) == a1_1.toList)) = false := by simpa using c6))
      (try (have c6b2 : ((((rd_T24 l0 x5_1).f0).toList) == a1_0.toList && ((((rd_T24 l0 x5_1).f1).toList) == a1_1.toList)) = false := by simpa using c6))
      (try (have c6b3 : ¬ ((((rd_T24 l0 x5_1).f0).toList) = a1_0.toList && ((((rd_T24 l0 x5_1).f1).toList) == a1_1.toList)) := by simpa using c6))
      clear c6
      have H' := Aside0.mk H
      clear H
      have p283 : 0 ≤ (x5_1 : Int) := of_decide_eq_true (by first | (with_reducible assumption) | assumption)
      have q283 : x5_1 < (l0.length : Int) := of_decide_eq_true (by first | (with_reducible assumption) | assumption)
      obtain ⟨ad283, e283, hx283_0, hx283_1⟩ := at_T24 HR0.out x5_1 p283 q283
      cases e283
      replace hx283_0 := (HB.out.cell (World.block_lt_of_cell? w _ hx283_0)).trans hx283_0
      replace hx283_1 := (HB.out.cell (World.block_lt_of_cell? w _ hx283_1)).trans hx283_1
      replace p283 := eq_true p283
      replace q283 := eq_true q283
      have hcz8_0 := bc BK282 0
      have hcz8_1 := bc BK282 1
      have hfz8_0 := bf BK282 0
      have hfz8_1 := bf BK282 1
      go_wp2
      repeat (go_quiet (fail); try go_wp2)
      go_roundg k1
      case measure => have := HK1.out; omega
      case rel => exact ⟨(wrap64 (x5_1 + 1)), (by first | rfl | (simp; done) | (simp [*]; done)), H', ⟨by have := HK1.out; omega⟩, ⟨by (with_reducible repeat (first | refine blk_drewN ?_ _ | refine blk_drew ?_ | refine blk_alloc ?_ _)); exact BK282.out⟩, ⟨ba HB⟩⟩
    ·rw [if_neg c5] at H
     exact absurd H (by simp)
   ·rw [if_neg c4] at H
    have c4b0 : decide (x5_1 < (l0.length : Int)) = false := decide_eq_false c4
    clear c4
    obtain rfl := Option.some.inj H
    go_wp2
    repeat (go_quiet (fail); try go_wp2)
    go_ret
    exact ⟨by first | rfl | (simp [errW_none, errW_some] <;> rfl) | (simp [*, errW_none, errW_some] <;> rfl), ba HB⟩
end Go.Proofs.YtjfcmkddeglghaaGreatDoor.G
end
section
namespace Go.Proofs.YtjfcmkddeglghaaGreatDoor.G
open Go.RowKit Go.Proofs.YtjfcmkddeglghaaGreatDoorW.PrintWords Go.Proofs.YtjfcmkddeglghaaGreatDoorW.PrintLast Go.Proofs.YtjfcmkddeglghaaGreatDoorW.PrintMore
attribute [local go_sem] max2_int min2_int max_two min_two max_three min_three max_four min_four
set_option linter.unusedVariables false
set_option linter.unusedSimpArgs false
def r19_Depth.l0 : Nat → List (List (S24)) → Int → ByteArray → ByteArray → Option (Int)
 | 0, _, _, _, _ => none
 | k + 1, x0, x5, x285000, x285001 => if x5 < (x0.length : Int) then (if 0 ≤ x5 then ((r05_Has.f k (rd_L11 x0 x5) x285000 x285001).bind fun t286 => (if t286 = true then (some (wrap64 (x5 + 1))) else (r19_Depth.l0 k x0 (wrap64 (x5 + 1)) x285000 x285001))) else (none)) else (some 0)
def r19_Depth.f (k : Nat) (l0 : List (List (S24))) (a1_0 : ByteArray) (a1_1 : ByteArray) : Option (Int) := r19_Depth.l0 k l0 0 a1_0 a1_1
theorem r19_Depth.mono_l : ∀ k, (∀ y0 y1 y2 y3, LeO (r19_Depth.l0 k y0 y1 y2 y3) (r19_Depth.l0 (k + 1) y0 y1 y2 y3))
 | 0 => fun _ _ _ _ r h => by simp [r19_Depth.l0] at h
 | k + 1 => by
  have ih0 := r19_Depth.mono_l k
  ·intro y0 y1 y2 y3
   unfold r19_Depth.l0
   repeat' first
   | (with_reducible exact ih0 _ _ _ _)
   | (with_reducible exact r05_Has.mono _ _ _ _)
   | (with_reducible exact LeO.refl _)
   | (with_reducible exact LeO.none _)
   | (with_reducible refine LeO.ite ?_ ?_)
   | (with_reducible refine LeO.bind ?_ (fun _ => ?_))
   | exact ih0 _ _ _ _
   | exact r05_Has.mono _ _ _ _
   | exact LeO.none _
   | refine LeO.ite ?_ ?_
   | refine LeO.bind ?_ (fun _ => ?_)
theorem r19_Depth.mono : ∀ a0 a1 a2 k, LeO (r19_Depth.f k a0 a1 a2) (r19_Depth.f (k + 1) a0 a1 a2) := by
 intro a0 a1 a2 k
 have ih0 := r19_Depth.mono_l k
 unfold r19_Depth.f
 repeat' first
   | (with_reducible exact ih0 _ _ _ _)
   | (with_reducible exact r05_Has.mono _ _ _ _)
   | (with_reducible exact LeO.refl _)
   | (with_reducible exact LeO.none _)
   | (with_reducible refine LeO.ite ?_ ?_)
   | (with_reducible refine LeO.bind ?_ (fun _ => ?_))
   | exact ih0 _ _ _ _
   | exact r05_Has.mono _ _ _ _
   | exact LeO.none _
   | refine LeO.ite ?_ ?_
   | refine LeO.bind ?_ (fun _ => ?_)
set_option maxHeartbeats 8000000 in
set_option maxRecDepth 100000 in
theorem r19_Depth.calls (k : Nat) (A0 : Option Addr) (c0 : Nat) (l0 : List (List (S24))) (a1_0 : ByteArray) (a1_1 : ByteArray) (r : Int) (w : World) (hr0 : Kd.C (Kd.slice 24 k24) w A0 l0.length l0) (hc0 : l0.length ≤ c0) (h : r19_Depth.f k l0 a1_0 a1_1 = some r) :
  Calls Tryz.prog 25 #[.slice A0 l0.length c0, .agg #[.string a1_0, .string a1_1]] w fun e w' => e = .returned (.int .i64 r) ∧ Below w.heap.size w w' := by
 have hu24 := Tryz.underlying24
 have HR0 := Aside0.mk hr0
 have HC0 := Aside0.mk hc0
 clear hr0 hc0
 have HB := Aside0.mk (Below.refl w.heap.size w)
 have H : (r19_Depth.l0 k l0 0 a1_0 a1_1) = some r := h
 clear h
 have H' := Aside0.mk H
 clear H
 go_enter Tryz.func25, Tryz.ntmps25
 go_wp2_with (first | ((with_reducible refine gate_dst (N := 3) rfl ?_); refine box_event ?hg (N := 3) ?hd (cs := #[.string a1_0, .string a1_1]) (t := 24) ?hr ?_; (case hd => rfl); (case hg => rfl); (case hr => first | (go_simp; done) | (go_simp; rfl)); intro gb284 hg w3 hbox hb; have n0_ := bs HB hb; have n1_ := Aside0.mk (hbox); have n2_ := gz hg HB; have n3_ := gz hg HB; revert n0_ n1_ n2_ n3_; clear HB; intro HB BK284 GW284 GE284; clear hb hbox hg))
 go_loopg [5] k (fun kq v5 w' => ∃ (x5_1 : Int), v5 = .int .i64 x5_1 ∧ Aside0 (r19_Depth.l0 kq l0 x5_1 a1_0 a1_1 = some r) ∧ Aside0 (kq ≤ k) ∧ Aside0 (w'.heap[gb284]? = some (.cells #[.string a1_0, .string a1_1] 24 (0, 0))) ∧ Aside0 (Below w.heap.size w w'))
 case atStart => exact ⟨(0), (by first | rfl | (simp; done) | (simp [*]; done)), H', ⟨Nat.le_refl _⟩, ⟨by (with_reducible repeat (first | refine blk_drewN ?_ _ | refine blk_drew ?_ | refine blk_alloc ?_ _)); exact BK284.out⟩, ⟨ba HB⟩⟩
 case round =>
  clear H'
  try clear c2
  try clear p2
  obtain ⟨x5_1, rfl, HA, HK1, BK284, HB⟩ := hrel
  cases gk with
  | zero => exact absurd HA.out (by simp [r19_Depth.l0])
  | succ k1 =>
   have H := HA.out
   clear HA
   simp only [r19_Depth.l0] at H
   by_cases c4 : x5_1 < (l0.length : Int)
   ·rw [if_pos c4] at H
    have c4b0 : decide (x5_1 < (l0.length : Int)) = true := decide_eq_true c4
    clear c4
    by_cases c5 : 0 ≤ x5_1
    ·rw [if_pos c5] at H
     have c5b0 : decide (0 ≤ x5_1) = true := decide_eq_true c5
     clear c5
     obtain ⟨t286, A6, H⟩ := bo H
     by_cases c7 : t286 = true
     ·subst c7
      replace H := it H
      obtain rfl := Option.some.inj H
      try go_wp2
      have n0_ := Aside0.mk (blk_drew BK284.out)
      have n1_ := Aside0.mk (below_drew1 HB.out)
      revert n0_ n1_
      clear BK284 HB
      intro BK284 HB
      have p285 : 0 ≤ (x5_1 : Int) := of_decide_eq_true (by first | (with_reducible assumption) | assumption)
      have q285 : x5_1 < (l0.length : Int) := of_decide_eq_true (by first | (with_reducible assumption) | assumption)
      obtain ⟨ad285, A285_0, c285_0, e285, hx285_0, hl285_0, hi285_0⟩ := at_L11 HR0.out x5_1 p285 q285
      have hw285_0 := hx285_0
      cases e285
      replace hx285_0 := (HB.out.cell (World.block_lt_of_cell? w _ hx285_0)).trans hx285_0
      have HR285_0 := Aside0.mk hi285_0
      have HC285_0 := Aside0.mk hl285_0
      clear hi285_0 hl285_0
      replace p285 := eq_true p285
      replace q285 := eq_true q285
      refine start_ (n := 6) (S := fun w' => w'.cell? ⟨gb284, 0, none⟩ = some (.string a1_0) ∧ w'.cell? ⟨gb284, 1, none⟩ = some (.string a1_1) ∧ w'.cell? (ad285.add (x5_1).toNat) = some (.slice A285_0 (rd_L11 l0 x5_1).length c285_0)) (ds := []) #[false, false, false, false, false, false] (by kernel_rfl) rfl rfl ⟨bc BK284 0, bc BK284 1, ((HB.out.cell (World.block_lt_of_cell? w _ hw285_0)).trans hw285_0)⟩ (fun hHeld => ?_)
      generalize wr.drew = w8 at BK284 HB HR285_0 hx285_0 hHeld ⊢
      refine pu 0 12 ?_
      refine pu 1 13 ?_
      refine pu 2 14 ?_
      refine tk 3 15 ?_
      refine tk 4 16 ?_
      refine oq 5 (some 17) fun K hK => ?_
      refine gs Tryz.func79 #[.slice A285_0 (rd_L11 l0 x5_1).length c285_0, .agg #[.string a1_0, .string a1_1]] ?_
      with_reducible refine (r05_Has.calls k1 _ _ (rd_L11 l0 x5_1) a1_0 a1_1 true _ ?side1 ?side2 A6.out).mono ?_
      (case side1 => repeat (first | exact (Kd.C_below HR285_0.out HB.out) | (with_reducible refine Kd.C_alloc ?_ _) | (with_reducible refine Kd.C_drewN ?_ _) | (with_reducible refine Kd.C_drew ?_)))
      (case side2 => exact HC285_0.out)
      rintro e w9 ⟨rfl, hb⟩
      refine ⟨_, rfl, ?_⟩
      have n0_ := bb BK284 hb
      have n1_ := bs HB hb
      revert n0_ n1_
      clear BK284 HB
      intro BK284 HB
      try clear hb
      refine hK.out _ _ ⟨bc BK284 0, bc BK284 1, ((HB.out.cell (World.block_lt_of_cell? w _ hw285_0)).trans hw285_0)⟩ (fun hHeld => ?_)
      clear hK K
      refine nm ?_
      refine dq ?_
      try go_wp2
      go_ret
      exact ⟨by first | rfl | (simp [errW_none, errW_some] <;> rfl) | (simp [*, errW_none, errW_some] <;> rfl), ba HB⟩
     ·replace c7 := Bool.eq_false_iff.mpr c7
      subst c7
      replace H := jf H
      have H' := Aside0.mk H
      clear H
      try go_wp2
      have n0_ := Aside0.mk (blk_drew BK284.out)
      have n1_ := Aside0.mk (below_drew1 HB.out)
      revert n0_ n1_
      clear BK284 HB
      intro BK284 HB
      have p285 : 0 ≤ (x5_1 : Int) := of_decide_eq_true (by first | (with_reducible assumption) | assumption)
      have q285 : x5_1 < (l0.length : Int) := of_decide_eq_true (by first | (with_reducible assumption) | assumption)
      obtain ⟨ad285, A285_0, c285_0, e285, hx285_0, hl285_0, hi285_0⟩ := at_L11 HR0.out x5_1 p285 q285
      have hw285_0 := hx285_0
      cases e285
      replace hx285_0 := (HB.out.cell (World.block_lt_of_cell? w _ hx285_0)).trans hx285_0
      have HR285_0 := Aside0.mk hi285_0
      have HC285_0 := Aside0.mk hl285_0
      clear hi285_0 hl285_0
      replace p285 := eq_true p285
      replace q285 := eq_true q285
      refine start_ (n := 6) (S := fun w' => w'.cell? ⟨gb284, 0, none⟩ = some (.string a1_0) ∧ w'.cell? ⟨gb284, 1, none⟩ = some (.string a1_1) ∧ w'.cell? (ad285.add (x5_1).toNat) = some (.slice A285_0 (rd_L11 l0 x5_1).length c285_0)) (ds := []) #[false, false, false, false, false, false] (by kernel_rfl) rfl rfl ⟨bc BK284 0, bc BK284 1, ((HB.out.cell (World.block_lt_of_cell? w _ hw285_0)).trans hw285_0)⟩ (fun hHeld => ?_)
      generalize wr.drew = w10 at BK284 HB HR285_0 hx285_0 hHeld ⊢
      refine pu 0 12 ?_
      refine pu 1 13 ?_
      refine pu 2 14 ?_
      refine tk 3 15 ?_
      refine tk 4 16 ?_
      refine oq 5 (some 17) fun K hK => ?_
      refine gs Tryz.func79 #[.slice A285_0 (rd_L11 l0 x5_1).length c285_0, .agg #[.string a1_0, .string a1_1]] ?_
      with_reducible refine (r05_Has.calls k1 _ _ (rd_L11 l0 x5_1) a1_0 a1_1 false _ ?side1 ?side2 A6.out).mono ?_
      (case side1 => repeat (first | exact (Kd.C_below HR285_0.out HB.out) | (with_reducible refine Kd.C_alloc ?_ _) | (with_reducible refine Kd.C_drewN ?_ _) | (with_reducible refine Kd.C_drew ?_)))
      (case side2 => exact HC285_0.out)
      rintro e w11 ⟨rfl, hb⟩
      refine ⟨_, rfl, ?_⟩
      have n0_ := bb BK284 hb
      have n1_ := bs HB hb
      revert n0_ n1_
      clear BK284 HB
      intro BK284 HB
      try clear hb
      refine hK.out _ _ ⟨bc BK284 0, bc BK284 1, ((HB.out.cell (World.block_lt_of_cell? w _ hw285_0)).trans hw285_0)⟩ (fun hHeld => ?_)
      clear hK K
      refine nm ?_
      refine dq ?_
      try go_wp2
      go_roundg k1
      case measure => have := HK1.out; omega
      case rel => exact ⟨(wrap64 (x5_1 + 1)), (by first | rfl | (simp; done) | (simp [*]; done)), H', ⟨by have := HK1.out; omega⟩, ⟨by (with_reducible repeat (first | refine blk_drewN ?_ _ | refine blk_drew ?_ | refine blk_alloc ?_ _)); exact BK284.out⟩, ⟨ba HB⟩⟩
    ·rw [if_neg c5] at H
     exact absurd H (by simp)
   ·rw [if_neg c4] at H
    have c4b0 : decide (x5_1 < (l0.length : Int)) = false := decide_eq_false c4
    clear c4
    obtain rfl := Option.some.inj H
    go_wp2
    go_ret
    exact ⟨by first | rfl | (simp [errW_none, errW_some] <;> rfl) | (simp [*, errW_none, errW_some] <;> rfl), ba HB⟩
end Go.Proofs.YtjfcmkddeglghaaGreatDoor.G
end
section
namespace Go.Proofs.YtjfcmkddeglghaaGreatDoor.G
open Go.RowKit Go.Proofs.YtjfcmkddeglghaaGreatDoorW.PrintWords Go.Proofs.YtjfcmkddeglghaaGreatDoorW.PrintLast Go.Proofs.YtjfcmkddeglghaaGreatDoorW.PrintMore
attribute [local go_sem] max2_int min2_int max_two min_two max_three min_three max_four min_four
set_option linter.unusedVariables false
set_option linter.unusedSimpArgs false
mutual
def r01_Cmp.l0 : Nat → ByteArray → ByteArray → Int → Option (Int)
 | 0, _, _, _ => none
 | k + 1, x0, x1, x5 => if x5 < (x0.size : Int) then (r01_Cmp.j1 k x0 x1 x5 (decide (x5 < (x1.size : Int)))) else (r01_Cmp.j1 k x0 x1 x5 false)
def r01_Cmp.j1 : Nat → ByteArray → ByteArray → Int → Bool → Option (Int)
 | 0, _, _, _, _ => none
 | k + 1, x0, x1, x5, x15 => if x15 = true then (if 0 ≤ x5 then (if x5 < (x0.size : Int) then (if x5 < (x1.size : Int) then (if (bt x0 x5) < (bt x1 x5) then (some (-1)) else (if (bt x0 x5) > (bt x1 x5) then (some 1) else (r01_Cmp.l0 k x0 x1 (wrap64 (x5 + 1))))) else (none)) else (none)) else (none)) else (if (x0.size : Int) < (x1.size : Int) then (some (-1)) else (if (x0.size : Int) > (x1.size : Int) then (some 1) else (some 0)))
end
def r01_Cmp.f (k : Nat) (a0 : ByteArray) (a1 : ByteArray) : Option (Int) := r01_Cmp.l0 k a0 a1 0
theorem r01_Cmp.mono_l : ∀ k, (∀ y0 y1 y2, LeO (r01_Cmp.l0 k y0 y1 y2) (r01_Cmp.l0 (k + 1) y0 y1 y2)) ∧ (∀ y0 y1 y2 y3, LeO (r01_Cmp.j1 k y0 y1 y2 y3) (r01_Cmp.j1 (k + 1) y0 y1 y2 y3))
 | 0 => ⟨fun _ _ _ r h => by simp [r01_Cmp.l0] at h, fun _ _ _ _ r h => by simp [r01_Cmp.j1] at h⟩
 | k + 1 => by
  obtain ⟨ih0, ih1⟩ := r01_Cmp.mono_l k
  refine ⟨?_, ?_⟩
  ·intro y0 y1 y2
   unfold r01_Cmp.l0
   repeat' first
   | (with_reducible exact ih0 _ _ _)
   | (with_reducible exact ih1 _ _ _ _)
   | (with_reducible exact LeO.refl _)
   | (with_reducible exact LeO.none _)
   | (with_reducible refine LeO.ite ?_ ?_)
   | (with_reducible refine LeO.bind ?_ (fun _ => ?_))
   | exact ih0 _ _ _
   | exact ih1 _ _ _ _
   | exact LeO.none _
   | refine LeO.ite ?_ ?_
   | refine LeO.bind ?_ (fun _ => ?_)
  ·intro y0 y1 y2 y3
   unfold r01_Cmp.j1
   repeat' first
   | (with_reducible exact ih0 _ _ _)
   | (with_reducible exact ih1 _ _ _ _)
   | (with_reducible exact LeO.refl _)
   | (with_reducible exact LeO.none _)
   | (with_reducible refine LeO.ite ?_ ?_)
   | (with_reducible refine LeO.bind ?_ (fun _ => ?_))
   | exact ih0 _ _ _
   | exact ih1 _ _ _ _
   | exact LeO.none _
   | refine LeO.ite ?_ ?_
   | refine LeO.bind ?_ (fun _ => ?_)
theorem r01_Cmp.mono : ∀ a0 a1 k, LeO (r01_Cmp.f k a0 a1) (r01_Cmp.f (k + 1) a0 a1) := by
 intro a0 a1 k
 obtain ⟨ih0, ih1⟩ := r01_Cmp.mono_l k
 unfold r01_Cmp.f
 repeat' first
   | (with_reducible exact ih0 _ _ _)
   | (with_reducible exact ih1 _ _ _ _)
   | (with_reducible exact LeO.refl _)
   | (with_reducible exact LeO.none _)
   | (with_reducible refine LeO.ite ?_ ?_)
   | (with_reducible refine LeO.bind ?_ (fun _ => ?_))
   | exact ih0 _ _ _
   | exact ih1 _ _ _ _
   | exact LeO.none _
   | refine LeO.ite ?_ ?_
   | refine LeO.bind ?_ (fun _ => ?_)
set_option maxHeartbeats 8000000 in
set_option maxRecDepth 100000 in
theorem r01_Cmp.calls (k : Nat) (a0 : ByteArray) (a1 : ByteArray) (r : Int) (w : World) (h : r01_Cmp.f k a0 a1 = some r) :
  Calls Tryz.prog 82 #[.string a0, .string a1] w fun e w' => e = .returned (.int .i64 r) ∧ Drawn0 w w' := by
 have H : (r01_Cmp.l0 k a0 a1 0) = some r := h
 clear h
 have H' := Aside0.mk H
 clear H
 go_enter Tryz.func82, Tryz.ntmps82
 go_wp2
 repeat (go_quiet (fail); try go_wp2)
 go_loopg [5] k (fun kq v5 w' => ∃ (x5_1 : Int), v5 = .int .i64 x5_1 ∧ Aside0 (r01_Cmp.l0 kq a0 a1 x5_1 = some r) ∧ Aside0 (kq ≤ k) ∧ Drawn0 w w')
 case atStart => exact ⟨(0), (by first | rfl | (simp; done) | (simp [*]; done)), H', ⟨Nat.le_refl _⟩, by repeat (first | exact Drawn0.refl _ | apply Drawn0.step)⟩
 case round =>
  clear H'
  try clear p2
  obtain ⟨x5_1, rfl, HA, HK1, ⟨m1, rfl⟩⟩ := hrel
  cases gk with
  | zero => exact absurd HA.out (by simp [r01_Cmp.l0])
  | succ k1 =>
   have H := HA.out
   clear HA
   simp only [r01_Cmp.l0] at H
   have HC3 := Aside0.mk H
   clear H
   go_upto_region 2 with (fail)
   repeat (go_quiet (fail); go_upto_region 2 with (fail))
   go_cut [15] (fun v15 wc => ∃ (kq : Nat) (x15_2 : Bool), v15 = .bool x15_2 ∧ Aside0 (r01_Cmp.j1 kq a0 a1 x5_1 x15_2 = some r) ∧ Aside0 (kq ≤ k1) ∧ Drawn0 w wc)
   case first =>
    have H := HC3.out
    clear HC3
    by_cases c4 : x5_1 < (a0.size : Int)
    ·rw [if_pos c4] at H
     have c4b0 : decide (x5_1 < (a0.size : Int)) = true := decide_eq_true c4
     clear c4
     (first | rw [c4b0] | (simp only [i64_w, i32_w]; rw [c4b0]) | skip)
     have H' := Aside0.mk H
     clear H
     go_wp2
     repeat (go_quiet (fail); try go_wp2)
     go_meet
     case rel => exact ⟨_, (decide (x5_1 < (a1.size : Int))), (by first | rfl | (simp; done) | (simp [*]; done)), H', ⟨by have := HK1.out; first | omega | exact Nat.le_refl _⟩, by repeat (first | exact Drawn0.refl _ | apply Drawn0.step)⟩
    ·rw [if_neg c4] at H
     have c4b0 : decide (x5_1 < (a0.size : Int)) = false := decide_eq_false c4
     clear c4
     (first | rw [c4b0] | (simp only [i64_w, i32_w]; rw [c4b0]) | skip)
     have H' := Aside0.mk H
     clear H
     go_wp2
     repeat (go_quiet (fail); try go_wp2)
     go_meet
     case rel => exact ⟨_, (false), (by first | rfl | (simp; done) | (simp [*]; done)), H', ⟨by have := HK1.out; first | omega | exact Nat.le_refl _⟩, by repeat (first | exact Drawn0.refl _ | apply Drawn0.step)⟩
   case rest =>
    clear HC3
    try clear p2
    try clear c4
    try clear c4b0
    try clear p2
    obtain ⟨kq, x15_2, rfl, HA, HJ2, ⟨mc2, rfl⟩⟩ := hcut
    cases kq with
    | zero => exact absurd HA.out (by simp [r01_Cmp.j1])
    | succ kj2 =>
     have H := HA.out
     clear HA
     simp only [r01_Cmp.j1] at H
     by_cases c5 : x15_2 = true
     ·subst c5
      replace H := it H
      by_cases c6 : 0 ≤ x5_1
      ·rw [if_pos c6] at H
       have c6b0 : decide (0 ≤ x5_1) = true := decide_eq_true c6
       clear c6
       by_cases c7 : x5_1 < (a0.size : Int)
       ·rw [if_pos c7] at H
        have c7b0 : decide (x5_1 < (a0.size : Int)) = true := decide_eq_true c7
        clear c7
        by_cases c9 : x5_1 < (a1.size : Int)
        ·rw [if_pos c9] at H
         have c9b0 : decide (x5_1 < (a1.size : Int)) = true := decide_eq_true c9
         clear c9
         by_cases c11 : (bt a0 x5_1) < (bt a1 x5_1)
         ·rw [if_pos c11] at H
          have c11b0 : decide ((bt a0 x5_1) < (bt a1 x5_1)) = true := decide_eq_true c11
          clear c11
          obtain rfl := Option.some.inj H
          have p8 : 0 ≤ (x5_1 : Int) := of_decide_eq_true (by first | (with_reducible assumption) | assumption)
          have q8 : x5_1 < (a0.size : Int) := of_decide_eq_true (by first | (with_reducible assumption) | assumption)
          have hx8 := bt_at a0 x5_1
          replace p8 := eq_true p8
          replace q8 := eq_true q8
          have p10 : 0 ≤ (x5_1 : Int) := of_decide_eq_true (by first | (with_reducible assumption) | assumption)
          have q10 : x5_1 < (a1.size : Int) := of_decide_eq_true (by first | (with_reducible assumption) | assumption)
          have hx10 := bt_at a1 x5_1
          replace p10 := eq_true p10
          replace q10 := eq_true q10
          go_wp2
          repeat (go_quiet (fail); try go_wp2)
          go_ret
          exact ⟨by first | rfl | (simp; done) | (simp [*]; done), by repeat (first | exact Drawn0.refl _ | apply Drawn0.step)⟩
         ·rw [if_neg c11] at H
          have c11b0 : decide ((bt a0 x5_1) < (bt a1 x5_1)) = false := decide_eq_false c11
          clear c11
          by_cases c14 : (bt a0 x5_1) > (bt a1 x5_1)
          ·rw [if_pos c14] at H
           have c14b0 : decide ((bt a1 x5_1) < (bt a0 x5_1)) = true := decide_eq_true c14
           clear c14
           obtain rfl := Option.some.inj H
           have p8 : 0 ≤ (x5_1 : Int) := of_decide_eq_true (by first | (with_reducible assumption) | assumption)
           have q8 : x5_1 < (a0.size : Int) := of_decide_eq_true (by first | (with_reducible assumption) | assumption)
           have hx8 := bt_at a0 x5_1
           replace p8 := eq_true p8
           replace q8 := eq_true q8
           have p10 : 0 ≤ (x5_1 : Int) := of_decide_eq_true (by first | (with_reducible assumption) | assumption)
           have q10 : x5_1 < (a1.size : Int) := of_decide_eq_true (by first | (with_reducible assumption) | assumption)
           have hx10 := bt_at a1 x5_1
           replace p10 := eq_true p10
           replace q10 := eq_true q10
           have p12 : 0 ≤ (x5_1 : Int) := of_decide_eq_true (by first | (with_reducible assumption) | assumption)
           have q12 : x5_1 < (a0.size : Int) := of_decide_eq_true (by first | (with_reducible assumption) | assumption)
           have hx12 := bt_at a0 x5_1
           replace p12 := eq_true p12
           replace q12 := eq_true q12
           have p13 : 0 ≤ (x5_1 : Int) := of_decide_eq_true (by first | (with_reducible assumption) | assumption)
           have q13 : x5_1 < (a1.size : Int) := of_decide_eq_true (by first | (with_reducible assumption) | assumption)
           have hx13 := bt_at a1 x5_1
           replace p13 := eq_true p13
           replace q13 := eq_true q13
           go_wp2
           repeat (go_quiet (fail); try go_wp2)
           go_ret
           exact ⟨by first | rfl | (simp; done) | (simp [*]; done), by repeat (first | exact Drawn0.refl _ | apply Drawn0.step)⟩
          ·rw [if_neg c14] at H
           have c14b0 : decide ((bt a1 x5_1) < (bt a0 x5_1)) = false := decide_eq_false c14
           clear c14
           have H' := Aside0.mk H
           clear H
           have p8 : 0 ≤ (x5_1 : Int) := of_decide_eq_true (by first | (with_reducible assumption) | assumption)
           have q8 : x5_1 < (a0.size : Int) := of_decide_eq_true (by first | (with_reducible assumption) | assumption)
           have hx8 := bt_at a0 x5_1
           replace p8 := eq_true p8
           replace q8 := eq_true q8
           have p10 : 0 ≤ (x5_1 : Int) := of_decide_eq_true (by first | (with_reducible assumption) | assumption)
           have q10 : x5_1 < (a1.size : Int) := of_decide_eq_true (by first | (with_reducible assumption) | assumption)
           have hx10 := bt_at a1 x5_1
           replace p10 := eq_true p10
           replace q10 := eq_true q10
           have p12 : 0 ≤ (x5_1 : Int) := of_decide_eq_true (by first | (with_reducible assumption) | assumption)
           have q12 : x5_1 < (a0.size : Int) := of_decide_eq_true (by first | (with_reducible assumption) | assumption)
           have hx12 := bt_at a0 x5_1
           replace p12 := eq_true p12
           replace q12 := eq_true q12
           have p13 : 0 ≤ (x5_1 : Int) := of_decide_eq_true (by first | (with_reducible assumption) | assumption)
           have q13 : x5_1 < (a1.size : Int) := of_decide_eq_true (by first | (with_reducible assumption) | assumption)
           have hx13 := bt_at a1 x5_1
           replace p13 := eq_true p13
           replace q13 := eq_true q13
           go_wp2
           repeat (go_quiet (fail); try go_wp2)
           go_roundg kj2
           case measure => have := HK1.out; have := HJ2.out; omega
           case rel => exact ⟨(wrap64 (x5_1 + 1)), (by first | rfl | (simp; done) | (simp [*]; done)), H', ⟨by have := HK1.out; have := HJ2.out; omega⟩, by repeat (first | exact Drawn0.refl _ | apply Drawn0.step)⟩
        ·rw [if_neg c9] at H
         exact absurd H (by simp)
       ·rw [if_neg c7] at H
        exact absurd H (by simp)
      ·rw [if_neg c6] at H
       exact absurd H (by simp)
     ·replace c5 := Bool.eq_false_iff.mpr c5
      subst c5
      replace H := jf H
      by_cases c15 : (a0.size : Int) < (a1.size : Int)
      ·rw [if_pos c15] at H
       have c15b0 : decide ((a0.size : Int) < (a1.size : Int)) = true := decide_eq_true c15
       have c15b1 : decide (a0.size < a1.size) = true := decide_eq_true (Int.ofNat_lt.mp c15)
       clear c15
       obtain rfl := Option.some.inj H
       go_wp2
       repeat (go_quiet (fail); try go_wp2)
       go_ret
       exact ⟨by first | rfl | (simp; done) | (simp [*]; done), by repeat (first | exact Drawn0.refl _ | apply Drawn0.step)⟩
      ·rw [if_neg c15] at H
       have c15b0 : decide ((a0.size : Int) < (a1.size : Int)) = false := decide_eq_false c15
       have c15b1 : decide (a0.size < a1.size) = false := decide_eq_false (fun h => c15 (Int.ofNat_lt.mpr h))
       clear c15
       by_cases c16 : (a0.size : Int) > (a1.size : Int)
       ·rw [if_pos c16] at H
        have c16b0 : decide ((a1.size : Int) < (a0.size : Int)) = true := decide_eq_true c16
        have c16b1 : decide (a1.size < a0.size) = true := decide_eq_true (Int.ofNat_lt.mp c16)
        clear c16
        obtain rfl := Option.some.inj H
        go_wp2
        repeat (go_quiet (fail); try go_wp2)
        go_ret
        exact ⟨by first | rfl | (simp; done) | (simp [*]; done), by repeat (first | exact Drawn0.refl _ | apply Drawn0.step)⟩
       ·rw [if_neg c16] at H
        have c16b0 : decide ((a1.size : Int) < (a0.size : Int)) = false := decide_eq_false c16
        have c16b1 : decide (a1.size < a0.size) = false := decide_eq_false (fun h => c16 (Int.ofNat_lt.mpr h))
        clear c16
        obtain rfl := Option.some.inj H
        go_wp2
        repeat (go_quiet (fail); try go_wp2)
        go_ret
        exact ⟨by first | rfl | (simp; done) | (simp [*]; done), by repeat (first | exact Drawn0.refl _ | apply Drawn0.step)⟩
end Go.Proofs.YtjfcmkddeglghaaGreatDoor.G
end
section
namespace Go.Proofs.YtjfcmkddeglghaaGreatDoor.G
open Go.RowKit Go.Proofs.YtjfcmkddeglghaaGreatDoorW.PrintWords Go.Proofs.YtjfcmkddeglghaaGreatDoorW.PrintLast Go.Proofs.YtjfcmkddeglghaaGreatDoorW.PrintMore
attribute [local go_sem] max2_int min2_int max_two min_two max_three min_three max_four min_four
set_option linter.unusedVariables false
set_option linter.unusedSimpArgs false
def r02_at.f (a0 : ByteArray) (a1 : Int) : Option (Int) := if a1 ≥ (a0.size : Int) then (some 0) else (if 0 ≤ (wrap64 ((wrap64 ((a0.size : Int) - 1)) - a1)) then (if (wrap64 ((wrap64 ((a0.size : Int) - 1)) - a1)) < (a0.size : Int) then ((r02_digit.f (bt a0 (wrap64 ((wrap64 ((a0.size : Int) - 1)) - a1)))).bind fun t287 => (some t287)) else (none)) else (none))
set_option maxHeartbeats 8000000 in
set_option maxRecDepth 100000 in
theorem r02_at.calls (a0 : ByteArray) (a1 : Int) (r : Int) (w : World) (h : r02_at.f a0 a1 = some r) :
  Calls Tryz.prog 153 #[.string a0, .int .i64 a1] w fun e w' => e = .returned (.int .i64 r) ∧ Drawn0 w w' := by
 have H : (if a1 ≥ (a0.size : Int) then (some 0) else (if 0 ≤ (wrap64 ((wrap64 ((a0.size : Int) - 1)) - a1)) then (if (wrap64 ((wrap64 ((a0.size : Int) - 1)) - a1)) < (a0.size : Int) then ((r02_digit.f (bt a0 (wrap64 ((wrap64 ((a0.size : Int) - 1)) - a1)))).bind fun t287 => (some t287)) else (none)) else (none))) = some r := h
 clear h
 by_cases c3 : a1 ≥ (a0.size : Int)
 ·rw [if_pos c3] at H
  have c3b0 : decide ((a0.size : Int) ≤ a1) = true := decide_eq_true c3
  clear c3
  obtain rfl := Option.some.inj H
  go_enter Tryz.func153, Tryz.ntmps153
  go_wp2
  go_ret
  exact ⟨by first | rfl | (simp; done) | (simp [*]; done), by repeat (first | exact Drawn0.refl _ | apply Drawn0.step)⟩
 ·rw [if_neg c3] at H
  have c3b0 : decide ((a0.size : Int) ≤ a1) = false := decide_eq_false c3
  clear c3
  obtain ⟨ji4, hji4⟩ : ∃ j_ : Int, (wrap64 ((wrap64 ((a0.size : Int) - 1)) - a1)) = j_ := ⟨_, rfl⟩
  replace H : (if 0 ≤ (ji4) then (if (ji4) < (a0.size : Int) then ((r02_digit.f (bt a0 (ji4))).bind fun t287 => (some t287)) else (none)) else (none)) = some r := by first | (rw [hji4] at H; exact H) | (simp only [hji4] at H ⊢; exact H)
  have hji4w : (IntKind.i64.wrap ((wrap64 ((a0.size : Int) - 1)) - a1)) = ji4 := (i64_w _).trans hji4
  by_cases c5 : 0 ≤ (ji4)
  ·rw [if_pos c5] at H
   have c5b0 : decide (0 ≤ (ji4)) = true := decide_eq_true c5
   clear c5
   by_cases c6 : (ji4) < (a0.size : Int)
   ·rw [if_pos c6] at H
    have c6b0 : decide ((ji4) < (a0.size : Int)) = true := decide_eq_true c6
    clear c6
    obtain ⟨t287, A8, H⟩ := bo H
    obtain rfl := Option.some.inj H
    have p7 : 0 ≤ ((ji4) : Int) := of_decide_eq_true (by first | (with_reducible assumption) | assumption)
    have q7 : (ji4) < (a0.size : Int) := of_decide_eq_true (by first | (with_reducible assumption) | assumption)
    have hx7 := bt_at a0 (ji4)
    replace p7 := eq_true p7
    replace q7 := eq_true q7
    go_enter Tryz.func153, Tryz.ntmps153
    go_wp2_with (first | ((with_reducible refine gate_callee (f := 175) rfl ?_); refine goesL_ (some 16) rfl rfl Tryz.func175 (by kernel_rfl) rfl #[.int .u8 (bt a0 (ji4))] rfl (by (try simp only [List.map_toArray, List.map_cons, List.map_nil]); first | done | (simp only [hji4]; rfl) | rfl | (simp only [List.length_drop, List.length_take]; rfl)) ?_; (with_reducible refine (r02_digit.calls (bt a0 (ji4)) t287 _ A8.out).mono ?_); rintro e w' ⟨rfl, ⟨nd, rfl⟩⟩; refine ⟨_, rfl, ?_⟩))
    go_ret
    exact ⟨by first | rfl | (simp; done) | (simp only [← hji4] <;> (first | rfl | simp)) | (simp [*]; done), by repeat (first | exact Drawn0.refl _ | apply Drawn0.step)⟩
   ·rw [if_neg c6] at H
    exact absurd H (by simp)
  ·rw [if_neg c5] at H
   exact absurd H (by simp)
end Go.Proofs.YtjfcmkddeglghaaGreatDoor.G
end
section
namespace Go.Proofs.YtjfcmkddeglghaaGreatDoor.G
open Go.RowKit Go.Proofs.YtjfcmkddeglghaaGreatDoorW.PrintWords Go.Proofs.YtjfcmkddeglghaaGreatDoorW.PrintLast Go.Proofs.YtjfcmkddeglghaaGreatDoorW.PrintMore
attribute [local go_sem] max2_int min2_int max_two min_two max_three min_three max_four min_four
set_option linter.unusedVariables false
set_option linter.unusedSimpArgs false
def r02_Cmp.l0 : Nat → ByteArray → ByteArray → Int → Option (Int)
 | 0, _, _, _ => none
 | k + 1, x0, x1, x5 => if x5 ≥ 0 then ((r02_at.f x0 x5).bind fun t288 => ((r02_at.f x1 x5).bind fun t289 => (if t288 < t289 then (some (-1)) else ((r02_at.f x0 x5).bind fun t290 => ((r02_at.f x1 x5).bind fun t291 => (if t290 > t291 then (some 1) else (r02_Cmp.l0 k x0 x1 (wrap64 (x5 - 1))))))))) else (some 0)
def r02_Cmp.f (k : Nat) (a0 : ByteArray) (a1 : ByteArray) : Option (Int) := r02_Cmp.l0 k a0 a1 (wrap64 ((mx (a0.size : Int) (a1.size : Int)) - 1))
theorem r02_Cmp.mono_l : ∀ k, (∀ y0 y1 y2, LeO (r02_Cmp.l0 k y0 y1 y2) (r02_Cmp.l0 (k + 1) y0 y1 y2))
 | 0 => fun _ _ _ r h => by simp [r02_Cmp.l0] at h
 | k + 1 => by
  have ih0 := r02_Cmp.mono_l k
  ·intro y0 y1 y2
   unfold r02_Cmp.l0
   repeat' first
   | (with_reducible exact ih0 _ _ _)
   | (with_reducible exact LeO.refl _)
   | (with_reducible exact LeO.none _)
   | (with_reducible refine LeO.ite ?_ ?_)
   | (with_reducible refine LeO.bind ?_ (fun _ => ?_))
   | exact ih0 _ _ _
   | exact LeO.none _
   | refine LeO.ite ?_ ?_
   | refine LeO.bind ?_ (fun _ => ?_)
theorem r02_Cmp.mono : ∀ a0 a1 k, LeO (r02_Cmp.f k a0 a1) (r02_Cmp.f (k + 1) a0 a1) := by
 intro a0 a1 k
 have ih0 := r02_Cmp.mono_l k
 unfold r02_Cmp.f
 repeat' first
   | (with_reducible exact ih0 _ _ _)
   | (with_reducible exact LeO.refl _)
   | (with_reducible exact LeO.none _)
   | (with_reducible refine LeO.ite ?_ ?_)
   | (with_reducible refine LeO.bind ?_ (fun _ => ?_))
   | exact ih0 _ _ _
   | exact LeO.none _
   | refine LeO.ite ?_ ?_
   | refine LeO.bind ?_ (fun _ => ?_)
set_option maxHeartbeats 8000000 in
set_option maxRecDepth 100000 in
theorem r02_Cmp.calls (k : Nat) (a0 : ByteArray) (a1 : ByteArray) (r : Int) (w : World) (h : r02_Cmp.f k a0 a1 = some r) :
  Calls Tryz.prog 117 #[.string a0, .string a1] w fun e w' => e = .returned (.int .i64 r) ∧ Below w.heap.size w w' := by
 have HB := Aside0.mk (Below.refl w.heap.size w)
 have H : (r02_Cmp.l0 k a0 a1 (wrap64 ((mx (a0.size : Int) (a1.size : Int)) - 1))) = some r := h
 clear h
 obtain ⟨ji3, hji3⟩ : ∃ j_ : Int, (mx (a0.size : Int) (a1.size : Int)) = j_ := ⟨_, rfl⟩
 replace H : (r02_Cmp.l0 k a0 a1 (wrap64 ((ji3) - 1))) = some r := by first | (rw [hji3] at H; exact H) | (simp only [hji3] at H ⊢; exact H)
 (try (have hji3l : 0 ≤ ji3 := by (rw [← hji3]; unfold mx; (repeat' split) <;> omega)))
 (try (have hji3m : 0 ≤ ji3 := by omega))
 have hji3_ : (if (a0.size : Int) < (a1.size : Int) then (a1.size : Int) else (a0.size : Int)) = ji3 := hji3
 (try (have hji3n := hji3_; simp only [Int.ofNat_lt] at hji3n))
 have H' := Aside0.mk H
 clear H
 go_enter Tryz.func117, Tryz.ntmps117
 go_wp2
 go_loopg [5] k (fun kq v5 w' => ∃ (x5_1 : Int), v5 = .int .i64 x5_1 ∧ Aside0 (r02_Cmp.l0 kq a0 a1 x5_1 = some r) ∧ Aside0 (kq ≤ k) ∧ Aside0 (Below w.heap.size w w'))
 case atStart => exact ⟨(wrap64 ((ji3) - 1)), (by first | rfl | (simp; done) | (simp only [← hji3] <;> (first | rfl | simp)) | (simp [*]; done)), H', ⟨Nat.le_refl _⟩, ⟨ba HB⟩⟩
 case round =>
  clear H'
  try clear c1
  try clear p2
  obtain ⟨x5_1, rfl, HA, HK1, HB⟩ := hrel
  cases gk with
  | zero => exact absurd HA.out (by simp [r02_Cmp.l0])
  | succ k1 =>
   have H := HA.out
   clear HA
   simp only [r02_Cmp.l0] at H
   by_cases c4 : x5_1 ≥ 0
   ·rw [if_pos c4] at H
    have c4b0 : decide (0 ≤ x5_1) = true := decide_eq_true c4
    clear c4
    obtain ⟨t288, A5, H⟩ := bo H
    obtain ⟨t289, A6, H⟩ := bo H
    by_cases c7 : t288 < t289
    ·rw [if_pos c7] at H
     have c7b0 : decide (t288 < t289) = true := decide_eq_true c7
     clear c7
     obtain rfl := Option.some.inj H
     go_wp2_with (first | ((with_reducible refine gate_callee (f := 153) rfl ?_); refine gl 18 Tryz.func153 #[.string a0, .int .i64 x5_1] ?_; (with_reducible refine (r02_at.calls a0 x5_1 t288 _ A5.out).mono ?_); rintro e w' ⟨rfl, ⟨nd, rfl⟩⟩; refine ⟨_, rfl, ?_⟩) | ((with_reducible refine gate_callee (f := 153) rfl ?_); refine gl 21 Tryz.func153 #[.string a1, .int .i64 x5_1] ?_; (with_reducible refine (r02_at.calls a1 x5_1 t289 _ A6.out).mono ?_); rintro e w' ⟨rfl, ⟨nd, rfl⟩⟩; refine ⟨_, rfl, ?_⟩))
     go_ret
     exact ⟨by first | rfl | (simp [errW_none, errW_some] <;> rfl) | (simp only [← hji3]; first | rfl | (simp [errW_none, errW_some] <;> rfl)) | (simp [*, errW_none, errW_some] <;> rfl), ba HB⟩
    ·rw [if_neg c7] at H
     have c7b0 : decide (t288 < t289) = false := decide_eq_false c7
     clear c7
     obtain ⟨t290, A8, H⟩ := bo H
     obtain ⟨t291, A9, H⟩ := bo H
     by_cases c10 : t290 > t291
     ·rw [if_pos c10] at H
      have c10b0 : decide (t291 < t290) = true := decide_eq_true c10
      clear c10
      obtain rfl := Option.some.inj H
      go_wp2_with (first | ((with_reducible refine gate_callee (f := 153) rfl ?_); refine gl 18 Tryz.func153 #[.string a0, .int .i64 x5_1] ?_; (with_reducible refine (r02_at.calls a0 x5_1 t288 _ A5.out).mono ?_); rintro e w' ⟨rfl, ⟨nd, rfl⟩⟩; refine ⟨_, rfl, ?_⟩) | ((with_reducible refine gate_callee (f := 153) rfl ?_); refine gl 21 Tryz.func153 #[.string a1, .int .i64 x5_1] ?_; (with_reducible refine (r02_at.calls a1 x5_1 t289 _ A6.out).mono ?_); rintro e w' ⟨rfl, ⟨nd, rfl⟩⟩; refine ⟨_, rfl, ?_⟩) | ((with_reducible refine gate_callee (f := 153) rfl ?_); refine gl 25 Tryz.func153 #[.string a0, .int .i64 x5_1] ?_; (with_reducible refine (r02_at.calls a0 x5_1 t290 _ A8.out).mono ?_); rintro e w' ⟨rfl, ⟨nd, rfl⟩⟩; refine ⟨_, rfl, ?_⟩) | ((with_reducible refine gate_callee (f := 153) rfl ?_); refine gl 28 Tryz.func153 #[.string a1, .int .i64 x5_1] ?_; (with_reducible refine (r02_at.calls a1 x5_1 t291 _ A9.out).mono ?_); rintro e w' ⟨rfl, ⟨nd, rfl⟩⟩; refine ⟨_, rfl, ?_⟩))
      go_ret
      exact ⟨by first | rfl | (simp [errW_none, errW_some] <;> rfl) | (simp only [← hji3]; first | rfl | (simp [errW_none, errW_some] <;> rfl)) | (simp [*, errW_none, errW_some] <;> rfl), ba HB⟩
     ·rw [if_neg c10] at H
      have c10b0 : decide (t291 < t290) = false := decide_eq_false c10
      clear c10
      have H' := Aside0.mk H
      clear H
      go_wp2_with (first | ((with_reducible refine gate_callee (f := 153) rfl ?_); refine gl 18 Tryz.func153 #[.string a0, .int .i64 x5_1] ?_; (with_reducible refine (r02_at.calls a0 x5_1 t288 _ A5.out).mono ?_); rintro e w' ⟨rfl, ⟨nd, rfl⟩⟩; refine ⟨_, rfl, ?_⟩) | ((with_reducible refine gate_callee (f := 153) rfl ?_); refine gl 21 Tryz.func153 #[.string a1, .int .i64 x5_1] ?_; (with_reducible refine (r02_at.calls a1 x5_1 t289 _ A6.out).mono ?_); rintro e w' ⟨rfl, ⟨nd, rfl⟩⟩; refine ⟨_, rfl, ?_⟩) | ((with_reducible refine gate_callee (f := 153) rfl ?_); refine gl 25 Tryz.func153 #[.string a0, .int .i64 x5_1] ?_; (with_reducible refine (r02_at.calls a0 x5_1 t290 _ A8.out).mono ?_); rintro e w' ⟨rfl, ⟨nd, rfl⟩⟩; refine ⟨_, rfl, ?_⟩) | ((with_reducible refine gate_callee (f := 153) rfl ?_); refine gl 28 Tryz.func153 #[.string a1, .int .i64 x5_1] ?_; (with_reducible refine (r02_at.calls a1 x5_1 t291 _ A9.out).mono ?_); rintro e w' ⟨rfl, ⟨nd, rfl⟩⟩; refine ⟨_, rfl, ?_⟩))
      go_roundg k1
      case measure => have := HK1.out; omega
      case rel => exact ⟨(wrap64 (x5_1 - 1)), (by first | rfl | (simp; done) | (simp [*]; done)), H', ⟨by have := HK1.out; omega⟩, ⟨ba HB⟩⟩
   ·rw [if_neg c4] at H
    have c4b0 : decide (0 ≤ x5_1) = false := decide_eq_false c4
    clear c4
    obtain rfl := Option.some.inj H
    go_wp2
    go_ret
    exact ⟨by first | rfl | (simp [errW_none, errW_some] <;> rfl) | (simp only [← hji3]; first | rfl | (simp [errW_none, errW_some] <;> rfl)) | (simp [*, errW_none, errW_some] <;> rfl), ba HB⟩
end Go.Proofs.YtjfcmkddeglghaaGreatDoor.G
end
section
namespace Go.Proofs.YtjfcmkddeglghaaGreatDoor.G
open Go.RowKit Go.Proofs.YtjfcmkddeglghaaGreatDoorW.PrintWords Go.Proofs.YtjfcmkddeglghaaGreatDoorW.PrintLast Go.Proofs.YtjfcmkddeglghaaGreatDoorW.PrintMore
attribute [local go_sem] max2_int min2_int max_two min_two max_three min_three max_four min_four
set_option linter.unusedVariables false
set_option linter.unusedSimpArgs false
def r03_words.j0 : Nat → ByteArray → ByteArray → Bool → Bool → Bool → Option (Int)
 | 0, _, _, _, _, _ => none
 | k + 1, x0, x1, x5, x6, x14 => if x14 = true then ((r02_Cmp.f k x0 x1).bind fun t294 => (some t294)) else (if x5 = true then (some (-1)) else (if x6 = true then (some 1) else ((r01_Cmp.f k x0 x1).bind fun t295 => (some t295))))
def r03_words.f (k : Nat) (a0 : ByteArray) (a1 : ByteArray) : Option (Int) := (r02_May.f k a0).bind fun t292 => ((r02_May.f k a1).bind fun t293 => (if t292 = true then (r03_words.j0 k a0 a1 t292 t293 t293) else (r03_words.j0 k a0 a1 t292 t293 false)))
theorem r03_words.mono_l : ∀ k, (∀ y0 y1 y2 y3 y4, LeO (r03_words.j0 k y0 y1 y2 y3 y4) (r03_words.j0 (k + 1) y0 y1 y2 y3 y4))
 | 0 => fun _ _ _ _ _ r h => by simp [r03_words.j0] at h
 | k + 1 => by
  have ih0 := r03_words.mono_l k
  ·intro y0 y1 y2 y3 y4
   unfold r03_words.j0
   repeat' first
   | (with_reducible exact ih0 _ _ _ _ _)
   | (with_reducible exact r01_Cmp.mono _ _ _)
   | (with_reducible exact r02_Cmp.mono _ _ _)
   | (with_reducible exact r02_May.mono _ _)
   | (with_reducible exact LeO.refl _)
   | (with_reducible exact LeO.none _)
   | (with_reducible refine LeO.ite ?_ ?_)
   | (with_reducible refine LeO.bind ?_ (fun _ => ?_))
   | exact ih0 _ _ _ _ _
   | exact r01_Cmp.mono _ _ _
   | exact r02_Cmp.mono _ _ _
   | exact r02_May.mono _ _
   | exact LeO.none _
   | refine LeO.ite ?_ ?_
   | refine LeO.bind ?_ (fun _ => ?_)
theorem r03_words.mono : ∀ a0 a1 k, LeO (r03_words.f k a0 a1) (r03_words.f (k + 1) a0 a1) := by
 intro a0 a1 k
 have ih0 := r03_words.mono_l k
 unfold r03_words.f
 repeat' first
   | (with_reducible exact ih0 _ _ _ _ _)
   | (with_reducible exact r01_Cmp.mono _ _ _)
   | (with_reducible exact r02_Cmp.mono _ _ _)
   | (with_reducible exact r02_May.mono _ _)
   | (with_reducible exact LeO.refl _)
   | (with_reducible exact LeO.none _)
   | (with_reducible refine LeO.ite ?_ ?_)
   | (with_reducible refine LeO.bind ?_ (fun _ => ?_))
   | exact ih0 _ _ _ _ _
   | exact r01_Cmp.mono _ _ _
   | exact r02_Cmp.mono _ _ _
   | exact r02_May.mono _ _
   | exact LeO.none _
   | refine LeO.ite ?_ ?_
   | refine LeO.bind ?_ (fun _ => ?_)
set_option maxHeartbeats 8000000 in
set_option maxRecDepth 100000 in
theorem r03_words.calls (k : Nat) (a0 : ByteArray) (a1 : ByteArray) (r : Int) (w : World) (h : r03_words.f k a0 a1 = some r) :
  Calls Tryz.prog 118 #[.string a0, .string a1] w fun e w' => e = .returned (.int .i64 r) ∧ Below w.heap.size w w' := by
 have HB := Aside0.mk (Below.refl w.heap.size w)
 have H : ((r02_May.f k a0).bind fun t292 => ((r02_May.f k a1).bind fun t293 => (if t292 = true then (r03_words.j0 k a0 a1 t292 t293 t293) else (r03_words.j0 k a0 a1 t292 t293 false)))) = some r := h
 clear h
 obtain ⟨t292, A3, H⟩ := bo H
 obtain ⟨t293, A4, H⟩ := bo H
 have HC5 := Aside0.mk H
 clear H
 go_enter Tryz.func118, Tryz.ntmps118
 go_upto_region 2 with (first | ((with_reducible refine gate_callee (f := 151) rfl ?_); refine gl 8 Tryz.func151 #[.string a0] ?_; (with_reducible refine (r02_May.calls k a0 t292 _ A3.out).mono ?_); rintro e w' ⟨rfl, ⟨nd, rfl⟩⟩; refine ⟨_, rfl, ?_⟩) | ((with_reducible refine gate_callee (f := 151) rfl ?_); refine gl 10 Tryz.func151 #[.string a1] ?_; (with_reducible refine (r02_May.calls k a1 t293 _ A4.out).mono ?_); rintro e w' ⟨rfl, ⟨nd, rfl⟩⟩; refine ⟨_, rfl, ?_⟩))
 (try simp only [Act.put, List.setIfInBounds_toArray, List.set_cons_zero, List.set_cons_succ])
 go_cut [14] (fun v14 wc => ∃ (kq : Nat) (x14_4 : Bool), v14 = .bool x14_4 ∧ Aside0 (r03_words.j0 kq a0 a1 t292 t293 x14_4 = some r) ∧ Aside0 (kq ≤ k) ∧ Aside0 (Below w.heap.size w wc))
 case first =>
  have H := HC5.out
  clear HC5
  by_cases c6 : t292 = true
  ·subst c6
   replace H := it H
   have H' := Aside0.mk H
   clear H
   go_wp2
   go_meet
   case rel => exact ⟨_, (t293), (by first | rfl | (simp; done) | (simp [*]; done)), H', ⟨by first | omega | exact Nat.le_refl _⟩, ⟨ba HB⟩⟩
  ·replace c6 := Bool.eq_false_iff.mpr c6
   subst c6
   replace H := jf H
   have H' := Aside0.mk H
   clear H
   go_wp2
   go_meet
   case rel => exact ⟨_, (false), (by first | rfl | (simp; done) | (simp [*]; done)), H', ⟨by first | omega | exact Nat.le_refl _⟩, ⟨ba HB⟩⟩
 case rest =>
  clear HC5
  try clear c1
  try clear p2
  try clear c6
  obtain ⟨kq, x14_4, rfl, HA, HJ4, HB⟩ := hcut
  cases kq with
  | zero => exact absurd HA.out (by simp [r03_words.j0])
  | succ kj4 =>
   have H := HA.out
   clear HA
   simp only [r03_words.j0] at H
   by_cases c7 : x14_4 = true
   ·subst c7
    replace H := it H
    obtain ⟨t294, A8, H⟩ := bo H
    obtain rfl := Option.some.inj H
    go_wp2_with (first | ((with_reducible refine gate_callee (f := 117) rfl ?_); refine gl 17 Tryz.func117 #[.string a0, .string a1] ?_; (with_reducible refine (r02_Cmp.calls kj4 a0 a1 t294 _ A8.out).mono ?_); rintro e w9 ⟨rfl, hb⟩; refine ⟨_, rfl, ?_⟩; have n0_ := bs HB hb; revert n0_; clear HB; intro HB; (try clear hb)))
    go_ret
    exact ⟨by first | rfl | (simp [errW_none, errW_some] <;> rfl) | (simp [*, errW_none, errW_some] <;> rfl), ba HB⟩
   ·replace c7 := Bool.eq_false_iff.mpr c7
    subst c7
    replace H := jf H
    by_cases c10 : t292 = true
    ·subst c10
     replace H := it H
     obtain rfl := Option.some.inj H
     go_wp2
     go_ret
     exact ⟨by first | rfl | (simp [errW_none, errW_some] <;> rfl) | (simp [*, errW_none, errW_some] <;> rfl), ba HB⟩
    ·replace c10 := Bool.eq_false_iff.mpr c10
     subst c10
     replace H := jf H
     by_cases c11 : t293 = true
     ·subst c11
      replace H := it H
      obtain rfl := Option.some.inj H
      go_wp2
      go_ret
      exact ⟨by first | rfl | (simp [errW_none, errW_some] <;> rfl) | (simp [*, errW_none, errW_some] <;> rfl), ba HB⟩
     ·replace c11 := Bool.eq_false_iff.mpr c11
      subst c11
      replace H := jf H
      obtain ⟨t295, A12, H⟩ := bo H
      obtain rfl := Option.some.inj H
      go_wp2_with (first | ((with_reducible refine gate_callee (f := 82) rfl ?_); refine gl 22 Tryz.func82 #[.string a0, .string a1] ?_; (with_reducible refine (r01_Cmp.calls kj4 a0 a1 t295 _ A12.out).mono ?_); rintro e w' ⟨rfl, ⟨nd, rfl⟩⟩; refine ⟨_, rfl, ?_⟩))
      go_ret
      exact ⟨by first | rfl | (simp [errW_none, errW_some] <;> rfl) | (simp [*, errW_none, errW_some] <;> rfl), ba HB⟩
end Go.Proofs.YtjfcmkddeglghaaGreatDoor.G
end
section
namespace Go.Proofs.YtjfcmkddeglghaaGreatDoor.G
open Go.RowKit Go.Proofs.YtjfcmkddeglghaaGreatDoorW.PrintWords Go.Proofs.YtjfcmkddeglghaaGreatDoorW.PrintLast Go.Proofs.YtjfcmkddeglghaaGreatDoorW.PrintMore
attribute [local go_sem] max2_int min2_int max_two min_two max_three min_three max_four min_four
set_option linter.unusedVariables false
set_option linter.unusedSimpArgs false
mutual
def r03_Cmp.j0 : Nat → Int → Int → Bool → ByteArray → ByteArray → ByteArray → List ByteArray → ByteArray → ByteArray → ByteArray → List ByteArray → Option (Int)
 | 0, _, _, _, _, _, _, _, _, _, _, _ => none
 | k + 1, x12, x13, x61, x304000, x304001, x304002, x304003, x312000, x312001, x312002, x312003 => if x61 = true then (some 0) else (if x12 = 0 then (some 1) else (if x13 = 0 then (some (-1)) else (r03_Cmp.l0 k x12 x13 0 x304000 x304001 x304002 x304003 x312000 x312001 x312002 x312003)))
def r03_Cmp.l0 : Nat → Int → Int → Int → ByteArray → ByteArray → ByteArray → List ByteArray → ByteArray → ByteArray → ByteArray → List ByteArray → Option (Int)
 | 0, _, _, _, _, _, _, _, _, _, _, _ => none
 | k + 1, x12, x13, x14, x304000, x304001, x304002, x304003, x312000, x312001, x312002, x312003 => if x14 < x12 then (r03_Cmp.j2 k x12 x13 x14 (decide (x14 < x13)) x304000 x304001 x304002 x304003 x312000 x312001 x312002 x312003) else (r03_Cmp.j2 k x12 x13 x14 false x304000 x304001 x304002 x304003 x312000 x312001 x312002 x312003)
def r03_Cmp.j2 : Nat → Int → Int → Int → Bool → ByteArray → ByteArray → ByteArray → List ByteArray → ByteArray → ByteArray → ByteArray → List ByteArray → Option (Int)
 | 0, _, _, _, _, _, _, _, _, _, _, _, _ => none
 | k + 1, x12, x13, x14, x73, x304000, x304001, x304002, x304003, x312000, x312001, x312002, x312003 => if x73 = true then (if 0 ≤ x14 then (if x14 < (x304003.length : Int) then (if x14 < (x312003.length : Int) then ((r03_words.f k (rdOf ByteArray.empty x304003 x14) (rdOf ByteArray.empty x312003 x14)).bind fun t317 => (if t317 = 0 then (r03_Cmp.l0 k x12 x13 (wrap64 (x14 + 1)) x304000 x304001 x304002 x304003 x312000 x312001 x312002 x312003) else (some t317))) else (none)) else (none)) else (none)) else (if x12 < x13 then (some (-1)) else (if x12 > x13 then (some 1) else (some 0)))
end
def r03_Cmp.f (k : Nat) (a0 : ByteArray) (a1 : ByteArray) : Option (Int) := (r03_Split.f k a0).bind fun bt296 => ((r03_Split.f k a1).bind fun bt304 => ((r02_Cmp.f k bt296.1 bt304.1).bind fun t312 => (if t312 = 0 then ((r02_Cmp.f k bt296.2.1 bt304.2.1).bind fun t313 => (if t313 = 0 then ((r02_Cmp.f k bt296.2.2.1 bt304.2.2.1).bind fun t314 => (if t314 = 0 then (if (bt296.2.2.2.1.length : Int) = 0 then (r03_Cmp.j0 k (bt296.2.2.2.1.length : Int) (bt304.2.2.2.1.length : Int) ((bt304.2.2.2.1.length : Int) == 0) bt296.1 bt296.2.1 bt296.2.2.1 bt296.2.2.2.1 bt304.1 bt304.2.1 bt304.2.2.1 bt304.2.2.2.1) else (r03_Cmp.j0 k (bt296.2.2.2.1.length : Int) (bt304.2.2.2.1.length : Int) false bt296.1 bt296.2.1 bt296.2.2.1 bt296.2.2.2.1 bt304.1 bt304.2.1 bt304.2.2.1 bt304.2.2.2.1)) else (some t314))) else (some t313))) else (some t312))))
theorem r03_Cmp.mono_l : ∀ k, (∀ y0 y1 y2 y3 y4 y5 y6 y7 y8 y9 y10, LeO (r03_Cmp.j0 k y0 y1 y2 y3 y4 y5 y6 y7 y8 y9 y10) (r03_Cmp.j0 (k + 1) y0 y1 y2 y3 y4 y5 y6 y7 y8 y9 y10)) ∧ (∀ y0 y1 y2 y3 y4 y5 y6 y7 y8 y9 y10, LeO (r03_Cmp.l0 k y0 y1 y2 y3 y4 y5 y6 y7 y8 y9 y10) (r03_Cmp.l0 (k + 1) y0 y1 y2 y3 y4 y5 y6 y7 y8 y9 y10)) ∧ (∀ y0 y1 y2 y3 y4 y5 y6 y7 y8 y9 y10 y11, LeO (r03_Cmp.j2 k y0 y1 y2 y3 y4 y5 y6 y7 y8 y9 y10 y11) (r03_Cmp.j2 (k + 1) y0 y1 y2 y3 y4 y5 y6 y7 y8 y9 y10 y11))
 | 0 => ⟨fun _ _ _ _ _ _ _ _ _ _ _ r h => by simp [r03_Cmp.j0] at h, fun _ _ _ _ _ _ _ _ _ _ _ r h => by simp [r03_Cmp.l0] at h, fun _ _ _ _ _ _ _ _ _ _ _ _ r h => by simp [r03_Cmp.j2] at h⟩
 | k + 1 => by
  obtain ⟨ih0, ih1, ih2⟩ := r03_Cmp.mono_l k
  refine ⟨?_, ?_, ?_⟩
  ·intro y0 y1 y2 y3 y4 y5 y6 y7 y8 y9 y10
   unfold r03_Cmp.j0
   repeat' first
   | (with_reducible exact ih0 _ _ _ _ _ _ _ _ _ _ _)
   | (with_reducible exact ih1 _ _ _ _ _ _ _ _ _ _ _)
   | (with_reducible exact ih2 _ _ _ _ _ _ _ _ _ _ _ _)
   | (with_reducible exact r02_Cmp.mono _ _ _)
   | (with_reducible exact r03_Split.mono _ _)
   | (with_reducible exact r03_words.mono _ _ _)
   | (with_reducible exact LeO.refl _)
   | (with_reducible exact LeO.none _)
   | (with_reducible refine LeO.ite ?_ ?_)
   | (with_reducible refine LeO.bind ?_ (fun _ => ?_))
   | exact ih0 _ _ _ _ _ _ _ _ _ _ _
   | exact ih1 _ _ _ _ _ _ _ _ _ _ _
   | exact ih2 _ _ _ _ _ _ _ _ _ _ _ _
   | exact r02_Cmp.mono _ _ _
   | exact r03_Split.mono _ _
   | exact r03_words.mono _ _ _
   | exact LeO.none _
   | refine LeO.ite ?_ ?_
   | refine LeO.bind ?_ (fun _ => ?_)
  ·intro y0 y1 y2 y3 y4 y5 y6 y7 y8 y9 y10
   unfold r03_Cmp.l0
   repeat' first
   | (with_reducible exact ih0 _ _ _ _ _ _ _ _ _ _ _)
   | (with_reducible exact ih1 _ _ _ _ _ _ _ _ _ _ _)
   | (with_reducible exact ih2 _ _ _ _ _ _ _ _ _ _ _ _)
   | (with_reducible exact r02_Cmp.mono _ _ _)
   | (with_reducible exact r03_Split.mono _ _)
   | (with_reducible exact r03_words.mono _ _ _)
   | (with_reducible exact LeO.refl _)
   | (with_reducible exact LeO.none _)
   | (with_reducible refine LeO.ite ?_ ?_)
   | (with_reducible refine LeO.bind ?_ (fun _ => ?_))
   | exact ih0 _ _ _ _ _ _ _ _ _ _ _
   | exact ih1 _ _ _ _ _ _ _ _ _ _ _
   | exact ih2 _ _ _ _ _ _ _ _ _ _ _ _
   | exact r02_Cmp.mono _ _ _
   | exact r03_Split.mono _ _
   | exact r03_words.mono _ _ _
   | exact LeO.none _
   | refine LeO.ite ?_ ?_
   | refine LeO.bind ?_ (fun _ => ?_)
  ·intro y0 y1 y2 y3 y4 y5 y6 y7 y8 y9 y10 y11
   unfold r03_Cmp.j2
   repeat' first
   | (with_reducible exact ih0 _ _ _ _ _ _ _ _ _ _ _)
   | (with_reducible exact ih1 _ _ _ _ _ _ _ _ _ _ _)
   | (with_reducible exact ih2 _ _ _ _ _ _ _ _ _ _ _ _)
   | (with_reducible exact r02_Cmp.mono _ _ _)
   | (with_reducible exact r03_Split.mono _ _)
   | (with_reducible exact r03_words.mono _ _ _)
   | (with_reducible exact LeO.refl _)
   | (with_reducible exact LeO.none _)
   | (with_reducible refine LeO.ite ?_ ?_)
   | (with_reducible refine LeO.bind ?_ (fun _ => ?_))
   | exact ih0 _ _ _ _ _ _ _ _ _ _ _
   | exact ih1 _ _ _ _ _ _ _ _ _ _ _
   | exact ih2 _ _ _ _ _ _ _ _ _ _ _ _
   | exact r02_Cmp.mono _ _ _
   | exact r03_Split.mono _ _
   | exact r03_words.mono _ _ _
   | exact LeO.none _
   | refine LeO.ite ?_ ?_
   | refine LeO.bind ?_ (fun _ => ?_)
theorem r03_Cmp.mono : ∀ a0 a1 k, LeO (r03_Cmp.f k a0 a1) (r03_Cmp.f (k + 1) a0 a1) := by
 intro a0 a1 k
 obtain ⟨ih0, ih1, ih2⟩ := r03_Cmp.mono_l k
 unfold r03_Cmp.f
 repeat' first
   | (with_reducible exact ih0 _ _ _ _ _ _ _ _ _ _ _)
   | (with_reducible exact ih1 _ _ _ _ _ _ _ _ _ _ _)
   | (with_reducible exact ih2 _ _ _ _ _ _ _ _ _ _ _ _)
   | (with_reducible exact r02_Cmp.mono _ _ _)
   | (with_reducible exact r03_Split.mono _ _)
   | (with_reducible exact r03_words.mono _ _ _)
   | (with_reducible exact LeO.refl _)
   | (with_reducible exact LeO.none _)
   | (with_reducible refine LeO.ite ?_ ?_)
   | (with_reducible refine LeO.bind ?_ (fun _ => ?_))
   | exact ih0 _ _ _ _ _ _ _ _ _ _ _
   | exact ih1 _ _ _ _ _ _ _ _ _ _ _
   | exact ih2 _ _ _ _ _ _ _ _ _ _ _ _
   | exact r02_Cmp.mono _ _ _
   | exact r03_Split.mono _ _
   | exact r03_words.mono _ _ _
   | exact LeO.none _
   | refine LeO.ite ?_ ?_
   | refine LeO.bind ?_ (fun _ => ?_)
def r03_Cmp.T12 : Bool × List (List Nat × List Nat) := (true, [([], []), ([0], [0]), ([1], [1]), ([], []), ([3], [3]), ([4], [4]), ([2, 0, 1, 2], [2]), ([5, 6, 0, 1, 2, 3, 4, 5, 6], [5])])
def r03_Cmp.B12 : List Nat := [0, 1, 3, 0, 8, 24, 7, 127]
theorem r03_Cmp.tab12 : rtab .any (opsOf Tryz.f83 12) = r03_Cmp.T12 := by kernel_rfl
theorem r03_Cmp.bits12 : waitsOk r03_Cmp.T12.2 r03_Cmp.B12 = true := by kernel_rfl
def r03_Cmp.T22 : Bool × List (List Nat × List Nat) := (true, [([], []), ([0], [0]), ([], []), ([1, 2], [1, 2]), ([3], [3]), ([], []), ([5], [5]), ([], []), ([6, 7], [6, 7]), ([8], [8]), ([4, 9], [4, 9]), ([10, 10, 0, 1, 2, 3, 4, 5, 6, 7, 8, 9, 10], [10])])
def r03_Cmp.B22 : List Nat := [0, 1, 0, 7, 15, 0, 32, 0, 224, 480, 1023, 2047]
theorem r03_Cmp.tab22 : rtab .any (opsOf Tryz.f83 22) = r03_Cmp.T22 := by kernel_rfl
theorem r03_Cmp.bits22 : waitsOk r03_Cmp.T22.2 r03_Cmp.B22 = true := by kernel_rfl
set_option maxHeartbeats 8000000 in
set_option maxRecDepth 100000 in
theorem r03_Cmp.calls (k : Nat) (a0 : ByteArray) (a1 : ByteArray) (r : Int) (w : World) (h : r03_Cmp.f k a0 a1 = some r) :
  Calls Tryz.prog 83 #[.string a0, .string a1] w fun e w' => e = .returned (.int .i64 r) ∧ Below w.heap.size w w' := by
 have hu146 := Tryz.underlying146
 have HB := Aside0.mk (Below.refl w.heap.size w)
 have H : ((r03_Split.f k a0).bind fun bt296 => ((r03_Split.f k a1).bind fun bt304 => ((r02_Cmp.f k bt296.1 bt304.1).bind fun t312 => (if t312 = 0 then ((r02_Cmp.f k bt296.2.1 bt304.2.1).bind fun t313 => (if t313 = 0 then ((r02_Cmp.f k bt296.2.2.1 bt304.2.2.1).bind fun t314 => (if t314 = 0 then (if (bt296.2.2.2.1.length : Int) = 0 then (r03_Cmp.j0 k (bt296.2.2.2.1.length : Int) (bt304.2.2.2.1.length : Int) ((bt304.2.2.2.1.length : Int) == 0) bt296.1 bt296.2.1 bt296.2.2.1 bt296.2.2.2.1 bt304.1 bt304.2.1 bt304.2.2.1 bt304.2.2.2.1) else (r03_Cmp.j0 k (bt296.2.2.2.1.length : Int) (bt304.2.2.2.1.length : Int) false bt296.1 bt296.2.1 bt296.2.2.1 bt296.2.2.2.1 bt304.1 bt304.2.1 bt304.2.2.1 bt304.2.2.2.1)) else (some t314))) else (some t313))) else (some t312))))) = some r := h
 clear h
 obtain ⟨⟨t296, t297, t298, t299, t302⟩, A3, H⟩ := bo H
 replace H : ((r03_Split.f k a1).bind fun bt304 => ((r02_Cmp.f k t296 bt304.1).bind fun t312 => (if t312 = 0 then ((r02_Cmp.f k t297 bt304.2.1).bind fun t313 => (if t313 = 0 then ((r02_Cmp.f k t298 bt304.2.2.1).bind fun t314 => (if t314 = 0 then (if (t299.length : Int) = 0 then (r03_Cmp.j0 k (t299.length : Int) (bt304.2.2.2.1.length : Int) ((bt304.2.2.2.1.length : Int) == 0) t296 t297 t298 t299 bt304.1 bt304.2.1 bt304.2.2.1 bt304.2.2.2.1) else (r03_Cmp.j0 k (t299.length : Int) (bt304.2.2.2.1.length : Int) false t296 t297 t298 t299 bt304.1 bt304.2.1 bt304.2.2.1 bt304.2.2.2.1)) else (some t314))) else (some t313))) else (some t312)))) = some r := H
 obtain ⟨⟨t304, t305, t306, t307, t310⟩, A4, H⟩ := bo H
 replace H : ((r02_Cmp.f k t296 t304).bind fun t312 => (if t312 = 0 then ((r02_Cmp.f k t297 t305).bind fun t313 => (if t313 = 0 then ((r02_Cmp.f k t298 t306).bind fun t314 => (if t314 = 0 then (if (t299.length : Int) = 0 then (r03_Cmp.j0 k (t299.length : Int) (t307.length : Int) ((t307.length : Int) == 0) t296 t297 t298 t299 t304 t305 t306 t307) else (r03_Cmp.j0 k (t299.length : Int) (t307.length : Int) false t296 t297 t298 t299 t304 t305 t306 t307)) else (some t314))) else (some t313))) else (some t312))) = some r := H
 obtain ⟨t312, A5, H⟩ := bo H
 by_cases c6 : t312 = 0
 ·rw [if_pos c6] at H
  have c6b0 := beq_iff_eq.mpr c6
  have c6b1 := bne_eq_false_iff_eq.mpr c6
  clear c6
  obtain ⟨t313, A7, H⟩ := bo H
  by_cases c8 : t313 = 0
  ·rw [if_pos c8] at H
   have c8b0 := beq_iff_eq.mpr c8
   have c8b1 := bne_eq_false_iff_eq.mpr c8
   clear c8
   obtain ⟨t314, A9, H⟩ := bo H
   by_cases c10 : t314 = 0
   ·rw [if_pos c10] at H
    have c10b0 := beq_iff_eq.mpr c10
    have c10b1 := bne_eq_false_iff_eq.mpr c10
    clear c10
    have HC11 := Aside0.mk H
    clear H
    go_enter Tryz.func83, Tryz.ntmps83
    try go_wp2_with (first | ((with_reducible refine gate_callee (f := 116) rfl ?_); refine gl 18 Tryz.func116 #[.string a0] ?_; (with_reducible refine (r03_Split.calls k a0 t296 t297 t298 t299 t302 _ A3.out).mono ?_); rintro e w12 ⟨v300, rfl, ho0, hb⟩; refine ⟨_, rfl, ?_⟩; have n0_ := Aside0.mk (Kd.R_lower ho0 (bz HB)); have n1_ := bs HB hb; revert n0_ n1_; clear HB; intro HO301 HB; (try clear hb); (try clear ho0)) | ((with_reducible refine gate_dst (N := 5) rfl ?_); refine box_event ?hg (N := 5) ?hd (cs := #[.string (⟨#[]⟩ : ByteArray), .string (⟨#[]⟩ : ByteArray), .string (⟨#[]⟩ : ByteArray), .slice none 0 0]) (t := 146) ?hr ?_; (case hd => rfl); (case hg => rfl); (case hr => first | (go_simp; done) | (go_simp; rfl)); intro gb303 hg w13 hbox hb; have n0_ := rb HO301 hb; have n1_ := bs HB hb; have n2_ := Aside0.mk (hbox); have n3_ := gz hg HB; have n4_ := gz hg HB; revert n0_ n1_ n2_ n3_ n4_; clear HO301 HB; intro HO301 HB BK303 GW303 GE303; clear hb hbox hg; have hcz14_0 := bc BK303 0; have hcz14_1 := bc BK303 1; have hcz14_2 := bc BK303 2; have hcz14_3 := bc BK303 3; have hfz14_0 := bf BK303 0; have hfz14_1 := bf BK303 1; have hfz14_2 := bf BK303 2; have hfz14_3 := bf BK303 3; obtain ⟨Ao15, co15, eo15⟩ := Kd.R_slice HO301.out; subst eo15) | ((with_reducible refine gate_callee (f := 116) rfl ?_); refine gl 23 Tryz.func116 #[.string a1] ?_; (with_reducible refine (r03_Split.calls k a1 t304 t305 t306 t307 t310 _ A4.out).mono ?_); rintro e w16 ⟨v308, rfl, ho0, hb⟩; refine ⟨_, rfl, ?_⟩; have n0_ := Aside0.mk (Kd.R_elder' (by (with_reducible repeat (first | apply Kd.R_alloc | apply Kd.R_drewN | apply Kd.R_drew)); exact (Kd.R_mono (Kd.R_far (p := ⟨gb303, 3, none⟩) (Kd.R_far (p := ⟨gb303, 2, none⟩) (Kd.R_far (p := ⟨gb303, 1, none⟩) (Kd.R_far (p := ⟨gb303, 0, none⟩) (Kd.R_types HO301.out BK303.out (by decide)) (fun _ hk => hk.2) (.string t296)) (fun _ hk => hk.2) (.string t297)) (fun _ hk => hk.2) (.string t298)) (fun _ hk => hk.2) (.slice Ao15 t299.length co15)) (fun _ h_ => h_.1))) (Kd.R_base ho0) hb); have n1_ := Aside0.mk (Kd.R_lower (Kd.R_new' ho0 (Kd.R_lt (by (with_reducible repeat (first | apply Kd.R_alloc | apply Kd.R_drewN | apply Kd.R_drew)); exact (Kd.R_mono (Kd.R_far (p := ⟨gb303, 3, none⟩) (Kd.R_far (p := ⟨gb303, 2, none⟩) (Kd.R_far (p := ⟨gb303, 1, none⟩) (Kd.R_far (p := ⟨gb303, 0, none⟩) (Kd.R_types HO301.out BK303.out (by decide)) (fun _ hk => hk.2) (.string t296)) (fun _ hk => hk.2) (.string t297)) (fun _ hk => hk.2) (.string t298)) (fun _ hk => hk.2) (.slice Ao15 t299.length co15)) (fun _ h_ => h_.1))))) (bz HB)); have n2_ := Aside0.mk (blk_below (g := gb303) (o := .cells #[.string t296, .string t297, .string t298, .slice Ao15 t299.length co15] 146 (0, 0)) (by (with_reducible repeat (first | refine blk_drewN ?_ _ | refine blk_drew ?_ | refine blk_alloc ?_ _)); refine blk_put (cs := #[.string t296, .string t297, .string t298, .slice none 0 0]) ?_ 3 _ rfl; (with_reducible repeat (first | refine blk_drewN ?_ _ | refine blk_drew ?_ | refine blk_alloc ?_ _)); refine blk_put (cs := #[.string t296, .string t297, .string (⟨#[]⟩ : ByteArray), .slice none 0 0]) ?_ 2 _ rfl; (with_reducible repeat (first | refine blk_drewN ?_ _ | refine blk_drew ?_ | refine blk_alloc ?_ _)); refine blk_put (cs := #[.string t296, .string (⟨#[]⟩ : ByteArray), .string (⟨#[]⟩ : ByteArray), .slice none 0 0]) ?_ 1 _ rfl; (with_reducible repeat (first | refine blk_drewN ?_ _ | refine blk_drew ?_ | refine blk_alloc ?_ _)); refine blk_put (cs := #[.string (⟨#[]⟩ : ByteArray), .string (⟨#[]⟩ : ByteArray), .string (⟨#[]⟩ : ByteArray), .slice none 0 0]) ?_ 0 _ rfl; (with_reducible repeat (first | refine blk_drewN ?_ _ | refine blk_drew ?_ | refine blk_alloc ?_ _)); exact BK303.out) hb); have n3_ := bs HB hb; revert n0_ n1_ n2_ n3_; clear HO301 BK303 HB; intro HO301 HO309 BK303 HB; (try clear hb); (try clear ho0)) | ((with_reducible refine gate_dst (N := 7) rfl ?_); refine box_event ?hg (N := 7) ?hd (cs := #[.string (⟨#[]⟩ : ByteArray), .string (⟨#[]⟩ : ByteArray), .string (⟨#[]⟩ : ByteArray), .slice none 0 0]) (t := 146) ?hr ?_; (case hd => rfl); (case hg => rfl); (case hr => first | (go_simp; done) | (go_simp; rfl)); intro gb311 hg w17 hbox hb; have n0_ := rb HO301 hb; have n1_ := rb HO309 hb; have n2_ := bb BK303 hb; have n3_ := bs HB hb; have n4_ := Aside0.mk (hbox); have n5_ := gz hg HB; have n6_ := gz hg HB; have n7_ := Aside0.mk ((by rw [hg]; exact Nat.ne_of_lt (blk_lt (g := gb303) (o := .cells #[.string t296, .string t297, .string t298, .slice Ao15 t299.length co15] 146 (0, 0)) (bk BK303)) : gb303 ≠ gb311)); have n8_ := Aside0.mk ((by rw [hg]; exact Nat.ne_of_gt (blk_lt (g := gb303) (o := .cells #[.string t296, .string t297, .string t298, .slice Ao15 t299.length co15] 146 (0, 0)) (bk BK303)) : gb311 ≠ gb303)); revert n0_ n1_ n2_ n3_ n4_ n5_ n6_ n7_ n8_; clear HO301 HO309 BK303 HB; intro HO301 HO309 BK303 HB BK311 GW311 GE311 NB303_311 NB311_303; clear hb hbox hg; have hnb18 := NB311_303.out; have hnc18 := NB303_311.out; have hcz19_0 := bc BK311 0; have hcz19_1 := bc BK311 1; have hcz19_2 := bc BK311 2; have hcz19_3 := bc BK311 3; have hfz19_0 := bf BK311 0; have hfz19_1 := bf BK311 1; have hfz19_2 := bf BK311 2; have hfz19_3 := bf BK311 3; obtain ⟨Ao20, co20, eo20⟩ := Kd.R_slice HO309.out; subst eo20; have hcz21_0 := bc BK303 0; have hcz21_1 := bc BK303 1; have hcz21_2 := bc BK303 2; have hcz21_3 := bc BK303 3; have hfz21_0 := bf BK303 0; have hfz21_1 := bf BK303 1; have hfz21_2 := bf BK303 2; have hfz21_3 := bf BK303 3) | ((with_reducible refine gate_callee (f := 117) rfl ?_); refine gl 30 Tryz.func117 #[.string t296, .string t304] ?_; (with_reducible refine (r02_Cmp.calls k t296 t304 t312 _ A5.out).mono ?_); rintro e w22 ⟨rfl, hb⟩; refine ⟨_, rfl, ?_⟩; have n0_ := Aside0.mk (Kd.R_below (by (with_reducible repeat (first | apply Kd.R_alloc | apply Kd.R_drewN | apply Kd.R_drew)); exact (Kd.R_mono (Kd.R_far (p := ⟨gb311, 3, none⟩) (Kd.R_far (p := ⟨gb311, 2, none⟩) (Kd.R_far (p := ⟨gb311, 1, none⟩) (Kd.R_far (p := ⟨gb311, 0, none⟩) (Kd.R_types HO301.out BK311.out (by decide)) (fun _ hk => hk.2) (.string t304)) (fun _ hk => hk.2) (.string t305)) (fun _ hk => hk.2) (.string t306)) (fun _ hk => hk.2) (.slice Ao20 t307.length co20)) (fun _ h_ => h_.1))) hb); have n1_ := Aside0.mk (Kd.R_below (by (with_reducible repeat (first | apply Kd.R_alloc | apply Kd.R_drewN | apply Kd.R_drew)); exact (Kd.R_mono (Kd.R_far (p := ⟨gb311, 3, none⟩) (Kd.R_far (p := ⟨gb311, 2, none⟩) (Kd.R_far (p := ⟨gb311, 1, none⟩) (Kd.R_far (p := ⟨gb311, 0, none⟩) (Kd.R_types HO309.out BK311.out (by decide)) (fun _ hk => hk.2) (.string t304)) (fun _ hk => hk.2) (.string t305)) (fun _ hk => hk.2) (.string t306)) (fun _ hk => hk.2) (.slice Ao20 t307.length co20)) (fun _ h_ => h_.1))) hb); have n2_ := Aside0.mk (blk_below (g := gb303) (o := .cells #[.string t296, .string t297, .string t298, .slice Ao15 t299.length co15] 146 (0, 0)) (by (with_reducible repeat (first | refine blk_drewN ?_ _ | refine blk_drew ?_ | refine blk_alloc ?_ _)); refine blk_far ?_ NB303_311.out _; (with_reducible repeat (first | refine blk_drewN ?_ _ | refine blk_drew ?_ | refine blk_alloc ?_ _)); refine blk_far ?_ NB303_311.out _; (with_reducible repeat (first | refine blk_drewN ?_ _ | refine blk_drew ?_ | refine blk_alloc ?_ _)); refine blk_far ?_ NB303_311.out _; (with_reducible repeat (first | refine blk_drewN ?_ _ | refine blk_drew ?_ | refine blk_alloc ?_ _)); refine blk_far ?_ NB303_311.out _; (with_reducible repeat (first | refine blk_drewN ?_ _ | refine blk_drew ?_ | refine blk_alloc ?_ _)); exact BK303.out) hb); have n3_ := Aside0.mk (blk_below (g := gb311) (o := .cells #[.string t304, .string t305, .string t306, .slice Ao20 t307.length co20] 146 (0, 0)) (by (with_reducible repeat (first | refine blk_drewN ?_ _ | refine blk_drew ?_ | refine blk_alloc ?_ _)); refine blk_put (cs := #[.string t304, .string t305, .string t306, .slice none 0 0]) ?_ 3 _ rfl; (with_reducible repeat (first | refine blk_drewN ?_ _ | refine blk_drew ?_ | refine blk_alloc ?_ _)); refine blk_put (cs := #[.string t304, .string t305, .string (⟨#[]⟩ : ByteArray), .slice none 0 0]) ?_ 2 _ rfl; (with_reducible repeat (first | refine blk_drewN ?_ _ | refine blk_drew ?_ | refine blk_alloc ?_ _)); refine blk_put (cs := #[.string t304, .string (⟨#[]⟩ : ByteArray), .string (⟨#[]⟩ : ByteArray), .slice none 0 0]) ?_ 1 _ rfl; (with_reducible repeat (first | refine blk_drewN ?_ _ | refine blk_drew ?_ | refine blk_alloc ?_ _)); refine blk_put (cs := #[.string (⟨#[]⟩ : ByteArray), .string (⟨#[]⟩ : ByteArray), .string (⟨#[]⟩ : ByteArray), .slice none 0 0]) ?_ 0 _ rfl; (with_reducible repeat (first | refine blk_drewN ?_ _ | refine blk_drew ?_ | refine blk_alloc ?_ _)); exact BK311.out) hb); have n4_ := bs HB hb; revert n0_ n1_ n2_ n3_ n4_; clear HO301 HO309 BK303 BK311 HB; intro HO301 HO309 BK303 BK311 HB; (try clear hb); have hcz23_0 := bc BK303 0; have hcz23_1 := bc BK303 1; have hcz23_2 := bc BK303 2; have hcz23_3 := bc BK303 3; have hfz23_0 := bf BK303 0; have hfz23_1 := bf BK303 1; have hfz23_2 := bf BK303 2; have hfz23_3 := bf BK303 3; have hcz24_0 := bc BK311 0; have hcz24_1 := bc BK311 1; have hcz24_2 := bc BK311 2; have hcz24_3 := bc BK311 3; have hfz24_0 := bf BK311 0; have hfz24_1 := bf BK311 1; have hfz24_2 := bf BK311 2; have hfz24_3 := bf BK311 3) | ((with_reducible refine gate_callee (f := 117) rfl ?_); refine gl 38 Tryz.func117 #[.string t297, .string t305] ?_; (with_reducible refine (r02_Cmp.calls k t297 t305 t313 _ A7.out).mono ?_); rintro e w25 ⟨rfl, hb⟩; refine ⟨_, rfl, ?_⟩; have n0_ := rb HO301 hb; have n1_ := rb HO309 hb; have n2_ := bb BK303 hb; have n3_ := bb BK311 hb; have n4_ := bs HB hb; revert n0_ n1_ n2_ n3_ n4_; clear HO301 HO309 BK303 BK311 HB; intro HO301 HO309 BK303 BK311 HB; (try clear hb); have hcz26_0 := bc BK303 0; have hcz26_1 := bc BK303 1; have hcz26_2 := bc BK303 2; have hcz26_3 := bc BK303 3; have hfz26_0 := bf BK303 0; have hfz26_1 := bf BK303 1; have hfz26_2 := bf BK303 2; have hfz26_3 := bf BK303 3; have hcz27_0 := bc BK311 0; have hcz27_1 := bc BK311 1; have hcz27_2 := bc BK311 2; have hcz27_3 := bc BK311 3; have hfz27_0 := bf BK311 0; have hfz27_1 := bf BK311 1; have hfz27_2 := bf BK311 2; have hfz27_3 := bf BK311 3) | ((with_reducible refine gate_callee (f := 117) rfl ?_); refine gl 46 Tryz.func117 #[.string t298, .string t306] ?_; (with_reducible refine (r02_Cmp.calls k t298 t306 t314 _ A9.out).mono ?_); rintro e w28 ⟨rfl, hb⟩; refine ⟨_, rfl, ?_⟩; have n0_ := rb HO301 hb; have n1_ := rb HO309 hb; have n2_ := bb BK303 hb; have n3_ := bb BK311 hb; have n4_ := bs HB hb; revert n0_ n1_ n2_ n3_ n4_; clear HO301 HO309 BK303 BK311 HB; intro HO301 HO309 BK303 BK311 HB; (try clear hb)))
    have n0_ := Aside0.mk (Kd.R_drew HO301.out)
    have n1_ := Aside0.mk (Kd.R_drew HO309.out)
    have n2_ := Aside0.mk (blk_drew BK303.out)
    have n3_ := Aside0.mk (blk_drew BK311.out)
    have n4_ := Aside0.mk (below_drew1 HB.out)
    revert n0_ n1_ n2_ n3_ n4_
    clear HO301 HO309 BK303 BK311 HB
    intro HO301 HO309 BK303 BK311 HB
    refine start_ (n := 8) (S := fun w' => w'.cell? ⟨gb303, 0, none⟩ = some (.string t296) ∧ w'.cell? ⟨gb303, 1, none⟩ = some (.string t297) ∧ w'.cell? ⟨gb303, 2, none⟩ = some (.string t298) ∧ w'.cell? ⟨gb303, 3, none⟩ = some (.slice Ao15 t299.length co15) ∧ w'.cell? ⟨gb311, 0, none⟩ = some (.string t304) ∧ w'.cell? ⟨gb311, 1, none⟩ = some (.string t305) ∧ w'.cell? ⟨gb311, 2, none⟩ = some (.string t306) ∧ w'.cell? ⟨gb311, 3, none⟩ = some (.slice Ao20 t307.length co20)) (ds := []) #[false, false, false, false, false, false, false, false] (by kernel_rfl) rfl rfl ⟨bc BK303 0, bc BK303 1, bc BK303 2, bc BK303 3, bc BK311 0, bc BK311 1, bc BK311 2, bc BK311 3⟩ (fun hHeld => ?_); refine with_tabW r03_Cmp.tab12 r03_Cmp.bits12 (fun HT_ HW_ => ?_)
    generalize w28.drew = w29 at HO301 HO309 BK303 BK311 HB hHeld ⊢
    refine pu 0 50 ?_
    refine pu 3 53 ?_
    refine tk 1 51 ?_
    refine pu 2 52 ?_
    refine pu 6 12 ?_
    refine tk 4 54 ?_
    refine pu 5 55 ?_
    refine pu 7 13 ?_
    refine dq ?_
    go_upto_region 13 with (fail)
    go_cut [61] (fun v61 wc => ∃ (kq : Nat) (x61_10 : Bool), v61 = .bool x61_10 ∧ Aside0 (r03_Cmp.j0 kq (t299.length : Int) (t307.length : Int) x61_10 t296 t297 t298 t299 t304 t305 t306 t307 = some r) ∧ Aside0 (kq ≤ k) ∧ Aside0 (Kd.R Kd.string 9 wc w.heap.size (fun k_ => some k_ ≠ ((.slice Ao20 t307.length co20) : Value).ownBlock) (.slice Ao15 t299.length co15) t299) ∧ Aside0 (Kd.R Kd.string 9 wc w.heap.size (fun k_ => some k_ ≠ ((.slice Ao15 t299.length co15) : Value).ownBlock) (.slice Ao20 t307.length co20) t307) ∧ Aside0 (wc.heap[gb303]? = some (.cells #[.string t296, .string t297, .string t298, (.slice Ao15 t299.length co15)] 146 (0, 0))) ∧ Aside0 (wc.heap[gb311]? = some (.cells #[.string t304, .string t305, .string t306, (.slice Ao20 t307.length co20)] 146 (0, 0))) ∧ Aside0 (Below w.heap.size w wc))
    case first =>
     have H := HC11.out
     clear HC11
     by_cases c30 : (t299.length : Int) = 0
     ·rw [if_pos c30] at H
      have c30b0 := beq_iff_eq.mpr c30
      have c30b1 := bne_eq_false_iff_eq.mpr c30
      clear c30
      (first | rw [c30b0] | (simp only [i64_w, i32_w]; rw [c30b0]) | skip)
      have H' := Aside0.mk H
      clear H
      go_wp2
      go_meet
      case rel => exact ⟨_, (((t307.length : Int) == 0)), (by first | rfl | (simp; done) | (simp [*]; done)), H', ⟨by first | omega | exact Nat.le_refl _⟩, ⟨by (with_reducible repeat (first | apply Kd.R_alloc | apply Kd.R_drewN | apply Kd.R_drew)); exact Kd.R_mono HO301.out (fun _ hk => hk.2)⟩, ⟨by (with_reducible repeat (first | apply Kd.R_alloc | apply Kd.R_drewN | apply Kd.R_drew)); exact Kd.R_mono HO309.out (fun _ hk => hk.2)⟩, ⟨by (with_reducible repeat (first | refine blk_drewN ?_ _ | refine blk_drew ?_ | refine blk_alloc ?_ _)); exact BK303.out⟩, ⟨by (with_reducible repeat (first | refine blk_drewN ?_ _ | refine blk_drew ?_ | refine blk_alloc ?_ _)); exact BK311.out⟩, ⟨ba HB⟩⟩
     ·rw [if_neg c30] at H
      have c30b0 := beq_eq_false_iff_ne.mpr c30
      have c30b1 := bne_iff_ne.mpr c30
      have c30b2 : ¬ (t299 = []) := fun h_ => c30 (by rw [h_]; rfl)
      (first | rw [c30b0] | (simp only [i64_w, i32_w]; rw [c30b0]) | skip)
      have H' := Aside0.mk H
      clear H
      go_wp2
      go_meet
      case rel => exact ⟨_, (false), (by first | rfl | (simp; done) | (simp [*]; done)), H', ⟨by first | omega | exact Nat.le_refl _⟩, ⟨by (with_reducible repeat (first | apply Kd.R_alloc | apply Kd.R_drewN | apply Kd.R_drew)); exact Kd.R_mono HO301.out (fun _ hk => hk.2)⟩, ⟨by (with_reducible repeat (first | apply Kd.R_alloc | apply Kd.R_drewN | apply Kd.R_drew)); exact Kd.R_mono HO309.out (fun _ hk => hk.2)⟩, ⟨by (with_reducible repeat (first | refine blk_drewN ?_ _ | refine blk_drew ?_ | refine blk_alloc ?_ _)); exact BK303.out⟩, ⟨by (with_reducible repeat (first | refine blk_drewN ?_ _ | refine blk_drew ?_ | refine blk_alloc ?_ _)); exact BK311.out⟩, ⟨ba HB⟩⟩
    case rest =>
     clear HC11
     try clear c1
     try clear p2
     try clear c3
     try clear c6
     try clear c6b0
     try clear c6b1
     try clear c8
     try clear c8b0
     try clear c8b1
     try clear c10
     try clear c10b0
     try clear c10b1
     try clear c11
     try clear c18
     try clear c30
     try clear c30b0
     try clear c30b1
     try clear c30b2
     try clear hcz14_0
     try clear hcz14_1
     try clear hcz14_2
     try clear hcz14_3
     try clear hcz19_0
     try clear hcz19_1
     try clear hcz19_2
     try clear hcz19_3
     try clear hcz21_0
     try clear hcz21_1
     try clear hcz21_2
     try clear hcz21_3
     try clear hcz23_0
     try clear hcz23_1
     try clear hcz23_2
     try clear hcz23_3
     try clear hcz24_0
     try clear hcz24_1
     try clear hcz24_2
     try clear hcz24_3
     try clear hcz26_0
     try clear hcz26_1
     try clear hcz26_2
     try clear hcz26_3
     try clear hcz27_0
     try clear hcz27_1
     try clear hcz27_2
     try clear hcz27_3
     try clear hfz14_0
     try clear hfz14_1
     try clear hfz14_2
     try clear hfz14_3
     try clear hfz19_0
     try clear hfz19_1
     try clear hfz19_2
     try clear hfz19_3
     try clear hfz21_0
     try clear hfz21_1
     try clear hfz21_2
     try clear hfz21_3
     try clear hfz23_0
     try clear hfz23_1
     try clear hfz23_2
     try clear hfz23_3
     try clear hfz24_0
     try clear hfz24_1
     try clear hfz24_2
     try clear hfz24_3
     try clear hfz26_0
     try clear hfz26_1
     try clear hfz26_2
     try clear hfz26_3
     try clear hfz27_0
     try clear hfz27_1
     try clear hfz27_2
     try clear hfz27_3
     obtain ⟨kq, x61_10, rfl, HA, HJ10, HO_304003, HO_312003, BK303, BK311, HB⟩ := hcut
     cases kq with
     | zero => exact absurd HA.out (by simp [r03_Cmp.j0])
     | succ kj10 =>
      have H := HA.out
      clear HA
      simp only [r03_Cmp.j0] at H
      by_cases c31 : x61_10 = true
      ·subst c31
       replace H := it H
       obtain rfl := Option.some.inj H
       go_wp2
       go_ret
       exact ⟨by first | rfl | (simp [errW_none, errW_some] <;> rfl) | (simp [*, errW_none, errW_some] <;> rfl), ba HB⟩
      ·replace c31 := Bool.eq_false_iff.mpr c31
       subst c31
       replace H := jf H
       by_cases c32 : (t299.length : Int) = 0
       ·rw [if_pos c32] at H
        have c32b0 := beq_iff_eq.mpr c32
        have c32b1 := bne_eq_false_iff_eq.mpr c32
        clear c32
        obtain rfl := Option.some.inj H
        go_wp2
        go_ret
        exact ⟨by first | rfl | (simp [errW_none, errW_some] <;> rfl) | (simp [*, errW_none, errW_some] <;> rfl), ba HB⟩
       ·rw [if_neg c32] at H
        have c32b0 := beq_eq_false_iff_ne.mpr c32
        have c32b1 := bne_iff_ne.mpr c32
        have c32b2 : ¬ (t299 = []) := fun h_ => c32 (by rw [h_]; rfl)
        by_cases c33 : (t307.length : Int) = 0
        ·rw [if_pos c33] at H
         have c33b0 := beq_iff_eq.mpr c33
         have c33b1 := bne_eq_false_iff_eq.mpr c33
         clear c33
         obtain rfl := Option.some.inj H
         go_wp2
         go_ret
         exact ⟨by first | rfl | (simp [errW_none, errW_some] <;> rfl) | (simp [*, errW_none, errW_some] <;> rfl), ba HB⟩
        ·rw [if_neg c33] at H
         have c33b0 := beq_eq_false_iff_ne.mpr c33
         have c33b1 := bne_iff_ne.mpr c33
         have c33b2 : ¬ (t307 = []) := fun h_ => c33 (by rw [h_]; rfl)
         have H' := Aside0.mk H
         clear H
         go_wp2
         go_loopg [14] kj10 (fun kq v14 w' => ∃ (x14_2 : Int), v14 = .int .i64 x14_2 ∧ Aside0 (r03_Cmp.l0 kq (t299.length : Int) (t307.length : Int) x14_2 t296 t297 t298 t299 t304 t305 t306 t307 = some r) ∧ Aside0 (kq ≤ kj10) ∧ Aside0 (Kd.R Kd.string 9 w' w.heap.size (fun k_ => some k_ ≠ ((.slice Ao20 t307.length co20) : Value).ownBlock) (.slice Ao15 t299.length co15) t299) ∧ Aside0 (Kd.R Kd.string 9 w' w.heap.size (fun k_ => some k_ ≠ ((.slice Ao15 t299.length co15) : Value).ownBlock) (.slice Ao20 t307.length co20) t307) ∧ Aside0 (w'.heap[gb303]? = some (.cells #[.string t296, .string t297, .string t298, (.slice Ao15 t299.length co15)] 146 (0, 0))) ∧ Aside0 (w'.heap[gb311]? = some (.cells #[.string t304, .string t305, .string t306, (.slice Ao20 t307.length co20)] 146 (0, 0))) ∧ Aside0 (Below w.heap.size w w'))
         case atStart => exact ⟨(0), (by first | rfl | (simp; done) | (simp [*]; done)), H', ⟨Nat.le_refl _⟩, ⟨ra HO_304003⟩, ⟨ra HO_312003⟩, ⟨by (with_reducible repeat (first | refine blk_drewN ?_ _ | refine blk_drew ?_ | refine blk_alloc ?_ _)); exact BK303.out⟩, ⟨by (with_reducible repeat (first | refine blk_drewN ?_ _ | refine blk_drew ?_ | refine blk_alloc ?_ _)); exact BK311.out⟩, ⟨ba HB⟩⟩
         case round =>
          clear H'
          try clear c1
          try clear p2
          try clear c3
          try clear c6
          try clear c6b0
          try clear c6b1
          try clear c8
          try clear c8b0
          try clear c8b1
          try clear c10
          try clear c10b0
          try clear c10b1
          try clear c11
          try clear c18
          try clear c30
          try clear c30b0
          try clear c30b1
          try clear c30b2
          try clear c31
          try clear c32
          try clear c32b0
          try clear c32b1
          try clear c32b2
          try clear c33
          try clear c33b0
          try clear c33b1
          try clear c33b2
          try clear hcz14_0
          try clear hcz14_1
          try clear hcz14_2
          try clear hcz14_3
          try clear hcz19_0
          try clear hcz19_1
          try clear hcz19_2
          try clear hcz19_3
          try clear hcz21_0
          try clear hcz21_1
          try clear hcz21_2
          try clear hcz21_3
          try clear hcz23_0
          try clear hcz23_1
          try clear hcz23_2
          try clear hcz23_3
          try clear hcz24_0
          try clear hcz24_1
          try clear hcz24_2
          try clear hcz24_3
          try clear hcz26_0
          try clear hcz26_1
          try clear hcz26_2
          try clear hcz26_3
          try clear hcz27_0
          try clear hcz27_1
          try clear hcz27_2
          try clear hcz27_3
          try clear hfz14_0
          try clear hfz14_1
          try clear hfz14_2
          try clear hfz14_3
          try clear hfz19_0
          try clear hfz19_1
          try clear hfz19_2
          try clear hfz19_3
          try clear hfz21_0
          try clear hfz21_1
          try clear hfz21_2
          try clear hfz21_3
          try clear hfz23_0
          try clear hfz23_1
          try clear hfz23_2
          try clear hfz23_3
          try clear hfz24_0
          try clear hfz24_1
          try clear hfz24_2
          try clear hfz24_3
          try clear hfz26_0
          try clear hfz26_1
          try clear hfz26_2
          try clear hfz26_3
          try clear hfz27_0
          try clear hfz27_1
          try clear hfz27_2
          try clear hfz27_3
          try clear p2
          obtain ⟨x14_2, rfl, HA, HK2, HO_304003, HO_312003, BK303, BK311, HB⟩ := hrel
          cases gk with
          | zero => exact absurd HA.out (by simp [r03_Cmp.l0])
          | succ k2 =>
           have H := HA.out
           clear HA
           simp only [r03_Cmp.l0] at H
           have HC34 := Aside0.mk H
           clear H
           go_upto_region 20 with (fail)
           go_cut [73] (fun v73 wc => ∃ (kq : Nat) (x73_33 : Bool), v73 = .bool x73_33 ∧ Aside0 (r03_Cmp.j2 kq (t299.length : Int) (t307.length : Int) x14_2 x73_33 t296 t297 t298 t299 t304 t305 t306 t307 = some r) ∧ Aside0 (kq ≤ k2) ∧ Aside0 (Kd.R Kd.string 9 wc w.heap.size (fun k_ => some k_ ≠ ((.slice Ao20 t307.length co20) : Value).ownBlock) (.slice Ao15 t299.length co15) t299) ∧ Aside0 (Kd.R Kd.string 9 wc w.heap.size (fun k_ => some k_ ≠ ((.slice Ao15 t299.length co15) : Value).ownBlock) (.slice Ao20 t307.length co20) t307) ∧ Aside0 (wc.heap[gb303]? = some (.cells #[.string t296, .string t297, .string t298, (.slice Ao15 t299.length co15)] 146 (0, 0))) ∧ Aside0 (wc.heap[gb311]? = some (.cells #[.string t304, .string t305, .string t306, (.slice Ao20 t307.length co20)] 146 (0, 0))) ∧ Aside0 (Below w.heap.size w wc))
           case first =>
            have H := HC34.out
            clear HC34
            by_cases c35 : x14_2 < (t299.length : Int)
            ·rw [if_pos c35] at H
             have c35b0 : decide (x14_2 < (t299.length : Int)) = true := decide_eq_true c35
             clear c35
             (first | rw [c35b0] | (simp only [i64_w, i32_w]; rw [c35b0]) | skip)
             have H' := Aside0.mk H
             clear H
             go_wp2
             go_meet
             case rel => exact ⟨_, (decide (x14_2 < (t307.length : Int))), (by first | rfl | (simp; done) | (simp [*]; done)), H', ⟨by have := HJ10.out; have := HK2.out; first | omega | exact Nat.le_refl _⟩, ⟨ra HO_304003⟩, ⟨ra HO_312003⟩, ⟨by (with_reducible repeat (first | refine blk_drewN ?_ _ | refine blk_drew ?_ | refine blk_alloc ?_ _)); exact BK303.out⟩, ⟨by (with_reducible repeat (first | refine blk_drewN ?_ _ | refine blk_drew ?_ | refine blk_alloc ?_ _)); exact BK311.out⟩, ⟨ba HB⟩⟩
            ·rw [if_neg c35] at H
             have c35b0 : decide (x14_2 < (t299.length : Int)) = false := decide_eq_false c35
             clear c35
             (first | rw [c35b0] | (simp only [i64_w, i32_w]; rw [c35b0]) | skip)
             have H' := Aside0.mk H
             clear H
             go_wp2
             go_meet
             case rel => exact ⟨_, (false), (by first | rfl | (simp; done) | (simp [*]; done)), H', ⟨by have := HJ10.out; have := HK2.out; first | omega | exact Nat.le_refl _⟩, ⟨ra HO_304003⟩, ⟨ra HO_312003⟩, ⟨by (with_reducible repeat (first | refine blk_drewN ?_ _ | refine blk_drew ?_ | refine blk_alloc ?_ _)); exact BK303.out⟩, ⟨by (with_reducible repeat (first | refine blk_drewN ?_ _ | refine blk_drew ?_ | refine blk_alloc ?_ _)); exact BK311.out⟩, ⟨ba HB⟩⟩
           case rest =>
            clear HC34
            try clear c1
            try clear p2
            try clear c3
            try clear c6
            try clear c6b0
            try clear c6b1
            try clear c8
            try clear c8b0
            try clear c8b1
            try clear c10
            try clear c10b0
            try clear c10b1
            try clear c11
            try clear c18
            try clear c30
            try clear c30b0
            try clear c30b1
            try clear c30b2
            try clear c31
            try clear c32
            try clear c32b0
            try clear c32b1
            try clear c32b2
            try clear c33
            try clear c33b0
            try clear c33b1
            try clear c33b2
            try clear c35
            try clear c35b0
            try clear hcz14_0
            try clear hcz14_1
            try clear hcz14_2
            try clear hcz14_3
            try clear hcz19_0
            try clear hcz19_1
            try clear hcz19_2
            try clear hcz19_3
            try clear hcz21_0
            try clear hcz21_1
            try clear hcz21_2
            try clear hcz21_3
            try clear hcz23_0
            try clear hcz23_1
            try clear hcz23_2
            try clear hcz23_3
            try clear hcz24_0
            try clear hcz24_1
            try clear hcz24_2
            try clear hcz24_3
            try clear hcz26_0
            try clear hcz26_1
            try clear hcz26_2
            try clear hcz26_3
            try clear hcz27_0
            try clear hcz27_1
            try clear hcz27_2
            try clear hcz27_3
            try clear hfz14_0
            try clear hfz14_1
            try clear hfz14_2
            try clear hfz14_3
            try clear hfz19_0
            try clear hfz19_1
            try clear hfz19_2
            try clear hfz19_3
            try clear hfz21_0
            try clear hfz21_1
            try clear hfz21_2
            try clear hfz21_3
            try clear hfz23_0
            try clear hfz23_1
            try clear hfz23_2
            try clear hfz23_3
            try clear hfz24_0
            try clear hfz24_1
            try clear hfz24_2
            try clear hfz24_3
            try clear hfz26_0
            try clear hfz26_1
            try clear hfz26_2
            try clear hfz26_3
            try clear hfz27_0
            try clear hfz27_1
            try clear hfz27_2
            try clear hfz27_3
            try clear p2
            obtain ⟨kq, x73_33, rfl, HA, HJ33, HO_304003, HO_312003, BK303, BK311, HB⟩ := hcut
            cases kq with
            | zero => exact absurd HA.out (by simp [r03_Cmp.j2])
            | succ kj33 =>
             have H := HA.out
             clear HA
             simp only [r03_Cmp.j2] at H
             by_cases c36 : x73_33 = true
             ·subst c36
              replace H := it H
              by_cases c37 : 0 ≤ x14_2
              ·rw [if_pos c37] at H
               have c37b0 : decide (0 ≤ x14_2) = true := decide_eq_true c37
               clear c37
               by_cases c38 : x14_2 < (t299.length : Int)
               ·rw [if_pos c38] at H
                have c38b0 : decide (x14_2 < (t299.length : Int)) = true := decide_eq_true c38
                clear c38
                by_cases c39 : x14_2 < (t307.length : Int)
                ·rw [if_pos c39] at H
                 have c39b0 : decide (x14_2 < (t307.length : Int)) = true := decide_eq_true c39
                 clear c39
                 obtain ⟨t317, A40, H⟩ := bo H
                 by_cases c41 : t317 = 0
                 ·rw [if_pos c41] at H
                  have c41b0 := beq_iff_eq.mpr c41
                  have c41b1 := bne_eq_false_iff_eq.mpr c41
                  clear c41
                  have H' := Aside0.mk H
                  clear H
                  try go_wp2
                  have n0_ := Aside0.mk (Kd.R_drew HO_304003.out)
                  have n1_ := Aside0.mk (Kd.R_drew HO_312003.out)
                  have n2_ := Aside0.mk (blk_drew BK303.out)
                  have n3_ := Aside0.mk (blk_drew BK311.out)
                  have n4_ := Aside0.mk (below_drew1 HB.out)
                  revert n0_ n1_ n2_ n3_ n4_
                  clear HO_304003 HO_312003 BK303 BK311 HB
                  intro HO_304003 HO_312003 BK303 BK311 HB
                  have p315 : 0 ≤ (x14_2 : Int) := of_decide_eq_true (by first | (with_reducible assumption) | assumption)
                  have q315 : x14_2 < (t299.length : Int) := of_decide_eq_true (by first | (with_reducible assumption) | assumption)
                  obtain ⟨ad315, e315, hx315_0⟩ := Kd.at_string (Kd.R_reads' HO_304003.out).2.2 x14_2 p315 q315
                  cases e315
                  replace p315 := eq_true p315
                  replace q315 := eq_true q315
                  have p316 : 0 ≤ (x14_2 : Int) := of_decide_eq_true (by first | (with_reducible assumption) | assumption)
                  have q316 : x14_2 < (t307.length : Int) := of_decide_eq_true (by first | (with_reducible assumption) | assumption)
                  obtain ⟨ad316, e316, hx316_0⟩ := Kd.at_string (Kd.R_reads' HO_312003.out).2.2 x14_2 p316 q316
                  cases e316
                  replace p316 := eq_true p316
                  replace q316 := eq_true q316
                  refine start_ (n := 12) (S := fun w' => w'.cell? ⟨gb303, 0, none⟩ = some (.string t296) ∧ w'.cell? ⟨gb303, 1, none⟩ = some (.string t297) ∧ w'.cell? ⟨gb303, 2, none⟩ = some (.string t298) ∧ w'.cell? ⟨gb303, 3, none⟩ = some (.slice (some ad315) t299.length co15) ∧ w'.cell? ⟨gb311, 0, none⟩ = some (.string t304) ∧ w'.cell? ⟨gb311, 1, none⟩ = some (.string t305) ∧ w'.cell? ⟨gb311, 2, none⟩ = some (.string t306) ∧ w'.cell? ⟨gb311, 3, none⟩ = some (.slice (some ad316) t307.length co20) ∧ w'.cell? (ad315.add (x14_2).toNat) = some (.string (rdOf ByteArray.empty t299 x14_2)) ∧ w'.cell? (ad316.add (x14_2).toNat) = some (.string (rdOf ByteArray.empty t307 x14_2))) (ds := []) #[false, false, false, false, false, false, false, false, false, false, false, false] (by kernel_rfl) rfl rfl ⟨bc BK303 0, bc BK303 1, bc BK303 2, bc BK303 3, bc BK311 0, bc BK311 1, bc BK311 2, bc BK311 3, hx315_0, hx316_0⟩ (fun hHeld => ?_); refine with_tabW r03_Cmp.tab22 r03_Cmp.bits22 (fun HT_ HW_ => ?_)
                  generalize wc.drew = w42 at HO_304003 HO_312003 BK303 BK311 HB hx315_0 hx316_0 hHeld ⊢
                  refine pu 0 76 ?_
                  refine pu 2 78 ?_
                  refine pu 5 81 ?_
                  refine pu 7 83 ?_
                  refine tk 1 77 ?_
                  refine pu 3 79 ?_
                  refine tk 4 80 ?_
                  refine tk 6 82 ?_
                  refine pu 8 84 ?_
                  refine tk 9 85 ?_
                  refine oq 10 (some 86) fun K hK => ?_
                  refine gs Tryz.func118 #[.string (rdOf ByteArray.empty t299 x14_2), .string (rdOf ByteArray.empty t307 x14_2)] ?_
                  with_reducible refine (r03_words.calls kj33 (rdOf ByteArray.empty t299 x14_2) (rdOf ByteArray.empty t307 x14_2) t317 _ A40.out).mono ?_
                  rintro e w43 ⟨rfl, hb⟩
                  have HS8_ := (hb.cell (World.block_lt_of_cell? _ _ (hHeld.2.2.2.2.2.2.2.2.1))).trans (hHeld.2.2.2.2.2.2.2.2.1)
                  have HS9_ := (hb.cell (World.block_lt_of_cell? _ _ (hHeld.2.2.2.2.2.2.2.2.2))).trans (hHeld.2.2.2.2.2.2.2.2.2)
                  refine ⟨_, rfl, ?_⟩
                  have n0_ := rb HO_304003 hb
                  have n1_ := rb HO_312003 hb
                  have n2_ := bb BK303 hb
                  have n3_ := bb BK311 hb
                  have n4_ := bs HB hb
                  revert n0_ n1_ n2_ n3_ n4_
                  clear HO_304003 HO_312003 BK303 BK311 HB
                  intro HO_304003 HO_312003 BK303 BK311 HB
                  try clear hb
                  refine hK.out _ _ ⟨bc BK303 0, bc BK303 1, bc BK303 2, bc BK303 3, bc BK311 0, bc BK311 1, bc BK311 2, bc BK311 3, HS8_, HS9_⟩ (fun hHeld => ?_)
                  clear hK K
                  refine nm ?_
                  refine pu 11 15 ?_
                  refine dq ?_
                  try go_wp2
                  go_roundg kj33
                  case measure => have := HJ10.out; have := HK2.out; have := HJ33.out; omega
                  case rel => exact ⟨(wrap64 (x14_2 + 1)), (by first | rfl | (simp; done) | (simp [*]; done)), H', ⟨by have := HJ10.out; have := HK2.out; have := HJ33.out; omega⟩, ⟨ra HO_304003⟩, ⟨ra HO_312003⟩, ⟨by (with_reducible repeat (first | refine blk_drewN ?_ _ | refine blk_drew ?_ | refine blk_alloc ?_ _)); exact BK303.out⟩, ⟨by (with_reducible repeat (first | refine blk_drewN ?_ _ | refine blk_drew ?_ | refine blk_alloc ?_ _)); exact BK311.out⟩, ⟨ba HB⟩⟩
                 ·rw [if_neg c41] at H
                  have c41b0 := beq_eq_false_iff_ne.mpr c41
                  have c41b1 := bne_iff_ne.mpr c41
                  obtain rfl := Option.some.inj H
                  try go_wp2
                  have n0_ := Aside0.mk (Kd.R_drew HO_304003.out)
                  have n1_ := Aside0.mk (Kd.R_drew HO_312003.out)
                  have n2_ := Aside0.mk (blk_drew BK303.out)
                  have n3_ := Aside0.mk (blk_drew BK311.out)
                  have n4_ := Aside0.mk (below_drew1 HB.out)
                  revert n0_ n1_ n2_ n3_ n4_
                  clear HO_304003 HO_312003 BK303 BK311 HB
                  intro HO_304003 HO_312003 BK303 BK311 HB
                  have p315 : 0 ≤ (x14_2 : Int) := of_decide_eq_true (by first | (with_reducible assumption) | assumption)
                  have q315 : x14_2 < (t299.length : Int) := of_decide_eq_true (by first | (with_reducible assumption) | assumption)
                  obtain ⟨ad315, e315, hx315_0⟩ := Kd.at_string (Kd.R_reads' HO_304003.out).2.2 x14_2 p315 q315
                  cases e315
                  replace p315 := eq_true p315
                  replace q315 := eq_true q315
                  have p316 : 0 ≤ (x14_2 : Int) := of_decide_eq_true (by first | (with_reducible assumption) | assumption)
                  have q316 : x14_2 < (t307.length : Int) := of_decide_eq_true (by first | (with_reducible assumption) | assumption)
                  obtain ⟨ad316, e316, hx316_0⟩ := Kd.at_string (Kd.R_reads' HO_312003.out).2.2 x14_2 p316 q316
                  cases e316
                  replace p316 := eq_true p316
                  replace q316 := eq_true q316
                  refine start_ (n := 12) (S := fun w' => w'.cell? ⟨gb303, 0, none⟩ = some (.string t296) ∧ w'.cell? ⟨gb303, 1, none⟩ = some (.string t297) ∧ w'.cell? ⟨gb303, 2, none⟩ = some (.string t298) ∧ w'.cell? ⟨gb303, 3, none⟩ = some (.slice (some ad315) t299.length co15) ∧ w'.cell? ⟨gb311, 0, none⟩ = some (.string t304) ∧ w'.cell? ⟨gb311, 1, none⟩ = some (.string t305) ∧ w'.cell? ⟨gb311, 2, none⟩ = some (.string t306) ∧ w'.cell? ⟨gb311, 3, none⟩ = some (.slice (some ad316) t307.length co20) ∧ w'.cell? (ad315.add (x14_2).toNat) = some (.string (rdOf ByteArray.empty t299 x14_2)) ∧ w'.cell? (ad316.add (x14_2).toNat) = some (.string (rdOf ByteArray.empty t307 x14_2))) (ds := []) #[false, false, false, false, false, false, false, false, false, false, false, false] (by kernel_rfl) rfl rfl ⟨bc BK303 0, bc BK303 1, bc BK303 2, bc BK303 3, bc BK311 0, bc BK311 1, bc BK311 2, bc BK311 3, hx315_0, hx316_0⟩ (fun hHeld => ?_); refine with_tabW r03_Cmp.tab22 r03_Cmp.bits22 (fun HT_ HW_ => ?_)
                  generalize wc.drew = w44 at HO_304003 HO_312003 BK303 BK311 HB hx315_0 hx316_0 hHeld ⊢
                  refine pu 0 76 ?_
                  refine pu 2 78 ?_
                  refine pu 5 81 ?_
                  refine pu 7 83 ?_
                  refine tk 1 77 ?_
                  refine pu 3 79 ?_
                  refine tk 4 80 ?_
                  refine tk 6 82 ?_
                  refine pu 8 84 ?_
                  refine tk 9 85 ?_
                  refine oq 10 (some 86) fun K hK => ?_
                  refine gs Tryz.func118 #[.string (rdOf ByteArray.empty t299 x14_2), .string (rdOf ByteArray.empty t307 x14_2)] ?_
                  with_reducible refine (r03_words.calls kj33 (rdOf ByteArray.empty t299 x14_2) (rdOf ByteArray.empty t307 x14_2) t317 _ A40.out).mono ?_
                  rintro e w45 ⟨rfl, hb⟩
                  have HS8_ := (hb.cell (World.block_lt_of_cell? _ _ (hHeld.2.2.2.2.2.2.2.2.1))).trans (hHeld.2.2.2.2.2.2.2.2.1)
                  have HS9_ := (hb.cell (World.block_lt_of_cell? _ _ (hHeld.2.2.2.2.2.2.2.2.2))).trans (hHeld.2.2.2.2.2.2.2.2.2)
                  refine ⟨_, rfl, ?_⟩
                  have n0_ := rb HO_304003 hb
                  have n1_ := rb HO_312003 hb
                  have n2_ := bb BK303 hb
                  have n3_ := bb BK311 hb
                  have n4_ := bs HB hb
                  revert n0_ n1_ n2_ n3_ n4_
                  clear HO_304003 HO_312003 BK303 BK311 HB
                  intro HO_304003 HO_312003 BK303 BK311 HB
                  try clear hb
                  refine hK.out _ _ ⟨bc BK303 0, bc BK303 1, bc BK303 2, bc BK303 3, bc BK311 0, bc BK311 1, bc BK311 2, bc BK311 3, HS8_, HS9_⟩ (fun hHeld => ?_)
                  clear hK K
                  refine nm ?_
                  refine pu 11 15 ?_
                  refine dq ?_
                  try go_wp2
                  go_ret
                  exact ⟨by first | rfl | (simp [errW_none, errW_some] <;> rfl) | (simp [*, errW_none, errW_some] <;> rfl), ba HB⟩
                ·rw [if_neg c39] at H
                 exact absurd H (by simp)
               ·rw [if_neg c38] at H
                exact absurd H (by simp)
              ·rw [if_neg c37] at H
               exact absurd H (by simp)
             ·replace c36 := Bool.eq_false_iff.mpr c36
              subst c36
              replace H := jf H
              by_cases c46 : (t299.length : Int) < (t307.length : Int)
              ·rw [if_pos c46] at H
               have c46b0 : decide ((t299.length : Int) < (t307.length : Int)) = true := decide_eq_true c46
               have c46b1 : decide (t299.length < t307.length) = true := decide_eq_true (Int.ofNat_lt.mp c46)
               clear c46
               obtain rfl := Option.some.inj H
               go_wp2
               go_ret
               exact ⟨by first | rfl | (simp [errW_none, errW_some] <;> rfl) | (simp [*, errW_none, errW_some] <;> rfl), ba HB⟩
              ·rw [if_neg c46] at H
               have c46b0 : decide ((t299.length : Int) < (t307.length : Int)) = false := decide_eq_false c46
               have c46b1 : decide (t299.length < t307.length) = false := decide_eq_false (fun h => c46 (Int.ofNat_lt.mpr h))
               clear c46
               by_cases c47 : (t299.length : Int) > (t307.length : Int)
               ·rw [if_pos c47] at H
                have c47b0 : decide ((t307.length : Int) < (t299.length : Int)) = true := decide_eq_true c47
                have c47b1 : decide (t307.length < t299.length) = true := decide_eq_true (Int.ofNat_lt.mp c47)
                clear c47
                obtain rfl := Option.some.inj H
                go_wp2
                go_ret
                exact ⟨by first | rfl | (simp [errW_none, errW_some] <;> rfl) | (simp [*, errW_none, errW_some] <;> rfl), ba HB⟩
               ·rw [if_neg c47] at H
                have c47b0 : decide ((t307.length : Int) < (t299.length : Int)) = false := decide_eq_false c47
                have c47b1 : decide (t307.length < t299.length) = false := decide_eq_false (fun h => c47 (Int.ofNat_lt.mpr h))
                clear c47
                obtain rfl := Option.some.inj H
                go_wp2
                go_ret
                exact ⟨by first | rfl | (simp [errW_none, errW_some] <;> rfl) | (simp [*, errW_none, errW_some] <;> rfl), ba HB⟩
   ·rw [if_neg c10] at H
    have c10b0 := beq_eq_false_iff_ne.mpr c10
    have c10b1 := bne_iff_ne.mpr c10
    obtain rfl := Option.some.inj H
    go_enter Tryz.func83, Tryz.ntmps83
    go_wp2_with (first | ((with_reducible refine gate_callee (f := 116) rfl ?_); refine gl 18 Tryz.func116 #[.string a0] ?_; (with_reducible refine (r03_Split.calls k a0 t296 t297 t298 t299 t302 _ A3.out).mono ?_); rintro e w48 ⟨v300, rfl, ho0, hb⟩; refine ⟨_, rfl, ?_⟩; have n0_ := Aside0.mk (Kd.R_lower ho0 (bz HB)); have n1_ := bs HB hb; revert n0_ n1_; clear HB; intro HO301 HB; (try clear hb); (try clear ho0)) | ((with_reducible refine gate_dst (N := 5) rfl ?_); refine box_event ?hg (N := 5) ?hd (cs := #[.string (⟨#[]⟩ : ByteArray), .string (⟨#[]⟩ : ByteArray), .string (⟨#[]⟩ : ByteArray), .slice none 0 0]) (t := 146) ?hr ?_; (case hd => rfl); (case hg => rfl); (case hr => first | (go_simp; done) | (go_simp; rfl)); intro gb303 hg w49 hbox hb; have n0_ := rb HO301 hb; have n1_ := bs HB hb; have n2_ := Aside0.mk (hbox); have n3_ := gz hg HB; have n4_ := gz hg HB; revert n0_ n1_ n2_ n3_ n4_; clear HO301 HB; intro HO301 HB BK303 GW303 GE303; clear hb hbox hg; have hcz50_0 := bc BK303 0; have hcz50_1 := bc BK303 1; have hcz50_2 := bc BK303 2; have hcz50_3 := bc BK303 3; have hfz50_0 := bf BK303 0; have hfz50_1 := bf BK303 1; have hfz50_2 := bf BK303 2; have hfz50_3 := bf BK303 3; obtain ⟨Ao51, co51, eo51⟩ := Kd.R_slice HO301.out; subst eo51) | ((with_reducible refine gate_callee (f := 116) rfl ?_); refine gl 23 Tryz.func116 #[.string a1] ?_; (with_reducible refine (r03_Split.calls k a1 t304 t305 t306 t307 t310 _ A4.out).mono ?_); rintro e w52 ⟨v308, rfl, ho0, hb⟩; refine ⟨_, rfl, ?_⟩; have n0_ := Aside0.mk (Kd.R_elder' (by (with_reducible repeat (first | apply Kd.R_alloc | apply Kd.R_drewN | apply Kd.R_drew)); exact (Kd.R_mono (Kd.R_far (p := ⟨gb303, 3, none⟩) (Kd.R_far (p := ⟨gb303, 2, none⟩) (Kd.R_far (p := ⟨gb303, 1, none⟩) (Kd.R_far (p := ⟨gb303, 0, none⟩) (Kd.R_types HO301.out BK303.out (by decide)) (fun _ hk => hk.2) (.string t296)) (fun _ hk => hk.2) (.string t297)) (fun _ hk => hk.2) (.string t298)) (fun _ hk => hk.2) (.slice Ao51 t299.length co51)) (fun _ h_ => h_.1))) (Kd.R_base ho0) hb); have n1_ := Aside0.mk (Kd.R_lower (Kd.R_new' ho0 (Kd.R_lt (by (with_reducible repeat (first | apply Kd.R_alloc | apply Kd.R_drewN | apply Kd.R_drew)); exact (Kd.R_mono (Kd.R_far (p := ⟨gb303, 3, none⟩) (Kd.R_far (p := ⟨gb303, 2, none⟩) (Kd.R_far (p := ⟨gb303, 1, none⟩) (Kd.R_far (p := ⟨gb303, 0, none⟩) (Kd.R_types HO301.out BK303.out (by decide)) (fun _ hk => hk.2) (.string t296)) (fun _ hk => hk.2) (.string t297)) (fun _ hk => hk.2) (.string t298)) (fun _ hk => hk.2) (.slice Ao51 t299.length co51)) (fun _ h_ => h_.1))))) (bz HB)); have n2_ := Aside0.mk (blk_below (g := gb303) (o := .cells #[.string t296, .string t297, .string t298, .slice Ao51 t299.length co51] 146 (0, 0)) (by (with_reducible repeat (first | refine blk_drewN ?_ _ | refine blk_drew ?_ | refine blk_alloc ?_ _)); refine blk_put (cs := #[.string t296, .string t297, .string t298, .slice none 0 0]) ?_ 3 _ rfl; (with_reducible repeat (first | refine blk_drewN ?_ _ | refine blk_drew ?_ | refine blk_alloc ?_ _)); refine blk_put (cs := #[.string t296, .string t297, .string (⟨#[]⟩ : ByteArray), .slice none 0 0]) ?_ 2 _ rfl; (with_reducible repeat (first | refine blk_drewN ?_ _ | refine blk_drew ?_ | refine blk_alloc ?_ _)); refine blk_put (cs := #[.string t296, .string (⟨#[]⟩ : ByteArray), .string (⟨#[]⟩ : ByteArray), .slice none 0 0]) ?_ 1 _ rfl; (with_reducible repeat (first | refine blk_drewN ?_ _ | refine blk_drew ?_ | refine blk_alloc ?_ _)); refine blk_put (cs := #[.string (⟨#[]⟩ : ByteArray), .string (⟨#[]⟩ : ByteArray), .string (⟨#[]⟩ : ByteArray), .slice none 0 0]) ?_ 0 _ rfl; (with_reducible repeat (first | refine blk_drewN ?_ _ | refine blk_drew ?_ | refine blk_alloc ?_ _)); exact BK303.out) hb); have n3_ := bs HB hb; revert n0_ n1_ n2_ n3_; clear HO301 BK303 HB; intro HO301 HO309 BK303 HB; (try clear hb); (try clear ho0)) | ((with_reducible refine gate_dst (N := 7) rfl ?_); refine box_event ?hg (N := 7) ?hd (cs := #[.string (⟨#[]⟩ : ByteArray), .string (⟨#[]⟩ : ByteArray), .string (⟨#[]⟩ : ByteArray), .slice none 0 0]) (t := 146) ?hr ?_; (case hd => rfl); (case hg => rfl); (case hr => first | (go_simp; done) | (go_simp; rfl)); intro gb311 hg w53 hbox hb; have n0_ := rb HO301 hb; have n1_ := rb HO309 hb; have n2_ := bb BK303 hb; have n3_ := bs HB hb; have n4_ := Aside0.mk (hbox); have n5_ := gz hg HB; have n6_ := gz hg HB; have n7_ := Aside0.mk ((by rw [hg]; exact Nat.ne_of_lt (blk_lt (g := gb303) (o := .cells #[.string t296, .string t297, .string t298, .slice Ao51 t299.length co51] 146 (0, 0)) (bk BK303)) : gb303 ≠ gb311)); have n8_ := Aside0.mk ((by rw [hg]; exact Nat.ne_of_gt (blk_lt (g := gb303) (o := .cells #[.string t296, .string t297, .string t298, .slice Ao51 t299.length co51] 146 (0, 0)) (bk BK303)) : gb311 ≠ gb303)); revert n0_ n1_ n2_ n3_ n4_ n5_ n6_ n7_ n8_; clear HO301 HO309 BK303 HB; intro HO301 HO309 BK303 HB BK311 GW311 GE311 NB303_311 NB311_303; clear hb hbox hg; have hnb54 := NB311_303.out; have hnc54 := NB303_311.out; have hcz55_0 := bc BK311 0; have hcz55_1 := bc BK311 1; have hcz55_2 := bc BK311 2; have hcz55_3 := bc BK311 3; have hfz55_0 := bf BK311 0; have hfz55_1 := bf BK311 1; have hfz55_2 := bf BK311 2; have hfz55_3 := bf BK311 3; obtain ⟨Ao56, co56, eo56⟩ := Kd.R_slice HO309.out; subst eo56; have hcz57_0 := bc BK303 0; have hcz57_1 := bc BK303 1; have hcz57_2 := bc BK303 2; have hcz57_3 := bc BK303 3; have hfz57_0 := bf BK303 0; have hfz57_1 := bf BK303 1; have hfz57_2 := bf BK303 2; have hfz57_3 := bf BK303 3) | ((with_reducible refine gate_callee (f := 117) rfl ?_); refine gl 30 Tryz.func117 #[.string t296, .string t304] ?_; (with_reducible refine (r02_Cmp.calls k t296 t304 t312 _ A5.out).mono ?_); rintro e w58 ⟨rfl, hb⟩; refine ⟨_, rfl, ?_⟩; have n0_ := Aside0.mk (Kd.R_below (by (with_reducible repeat (first | apply Kd.R_alloc | apply Kd.R_drewN | apply Kd.R_drew)); exact (Kd.R_mono (Kd.R_far (p := ⟨gb311, 3, none⟩) (Kd.R_far (p := ⟨gb311, 2, none⟩) (Kd.R_far (p := ⟨gb311, 1, none⟩) (Kd.R_far (p := ⟨gb311, 0, none⟩) (Kd.R_types HO301.out BK311.out (by decide)) (fun _ hk => hk.2) (.string t304)) (fun _ hk => hk.2) (.string t305)) (fun _ hk => hk.2) (.string t306)) (fun _ hk => hk.2) (.slice Ao56 t307.length co56)) (fun _ h_ => h_.1))) hb); have n1_ := Aside0.mk (Kd.R_below (by (with_reducible repeat (first | apply Kd.R_alloc | apply Kd.R_drewN | apply Kd.R_drew)); exact (Kd.R_mono (Kd.R_far (p := ⟨gb311, 3, none⟩) (Kd.R_far (p := ⟨gb311, 2, none⟩) (Kd.R_far (p := ⟨gb311, 1, none⟩) (Kd.R_far (p := ⟨gb311, 0, none⟩) (Kd.R_types HO309.out BK311.out (by decide)) (fun _ hk => hk.2) (.string t304)) (fun _ hk => hk.2) (.string t305)) (fun _ hk => hk.2) (.string t306)) (fun _ hk => hk.2) (.slice Ao56 t307.length co56)) (fun _ h_ => h_.1))) hb); have n2_ := Aside0.mk (blk_below (g := gb303) (o := .cells #[.string t296, .string t297, .string t298, .slice Ao51 t299.length co51] 146 (0, 0)) (by (with_reducible repeat (first | refine blk_drewN ?_ _ | refine blk_drew ?_ | refine blk_alloc ?_ _)); refine blk_far ?_ NB303_311.out _; (with_reducible repeat (first | refine blk_drewN ?_ _ | refine blk_drew ?_ | refine blk_alloc ?_ _)); refine blk_far ?_ NB303_311.out _; (with_reducible repeat (first | refine blk_drewN ?_ _ | refine blk_drew ?_ | refine blk_alloc ?_ _)); refine blk_far ?_ NB303_311.out _; (with_reducible repeat (first | refine blk_drewN ?_ _ | refine blk_drew ?_ | refine blk_alloc ?_ _)); refine blk_far ?_ NB303_311.out _; (with_reducible repeat (first | refine blk_drewN ?_ _ | refine blk_drew ?_ | refine blk_alloc ?_ _)); exact BK303.out) hb); have n3_ := Aside0.mk (blk_below (g := gb311) (o := .cells #[.string t304, .string t305, .string t306, .slice Ao56 t307.length co56] 146 (0, 0)) (by (with_reducible repeat (first | refine blk_drewN ?_ _ | refine blk_drew ?_ | refine blk_alloc ?_ _)); refine blk_put (cs := #[.string t304, .string t305, .string t306, .slice none 0 0]) ?_ 3 _ rfl; (with_reducible repeat (first | refine blk_drewN ?_ _ | refine blk_drew ?_ | refine blk_alloc ?_ _)); refine blk_put (cs := #[.string t304, .string t305, .string (⟨#[]⟩ : ByteArray), .slice none 0 0]) ?_ 2 _ rfl; (with_reducible repeat (first | refine blk_drewN ?_ _ | refine blk_drew ?_ | refine blk_alloc ?_ _)); refine blk_put (cs := #[.string t304, .string (⟨#[]⟩ : ByteArray), .string (⟨#[]⟩ : ByteArray), .slice none 0 0]) ?_ 1 _ rfl; (with_reducible repeat (first | refine blk_drewN ?_ _ | refine blk_drew ?_ | refine blk_alloc ?_ _)); refine blk_put (cs := #[.string (⟨#[]⟩ : ByteArray), .string (⟨#[]⟩ : ByteArray), .string (⟨#[]⟩ : ByteArray), .slice none 0 0]) ?_ 0 _ rfl; (with_reducible repeat (first | refine blk_drewN ?_ _ | refine blk_drew ?_ | refine blk_alloc ?_ _)); exact BK311.out) hb); have n4_ := bs HB hb; revert n0_ n1_ n2_ n3_ n4_; clear HO301 HO309 BK303 BK311 HB; intro HO301 HO309 BK303 BK311 HB; (try clear hb); have hcz59_0 := bc BK303 0; have hcz59_1 := bc BK303 1; have hcz59_2 := bc BK303 2; have hcz59_3 := bc BK303 3; have hfz59_0 := bf BK303 0; have hfz59_1 := bf BK303 1; have hfz59_2 := bf BK303 2; have hfz59_3 := bf BK303 3; have hcz60_0 := bc BK311 0; have hcz60_1 := bc BK311 1; have hcz60_2 := bc BK311 2; have hcz60_3 := bc BK311 3; have hfz60_0 := bf BK311 0; have hfz60_1 := bf BK311 1; have hfz60_2 := bf BK311 2; have hfz60_3 := bf BK311 3) | ((with_reducible refine gate_callee (f := 117) rfl ?_); refine gl 38 Tryz.func117 #[.string t297, .string t305] ?_; (with_reducible refine (r02_Cmp.calls k t297 t305 t313 _ A7.out).mono ?_); rintro e w61 ⟨rfl, hb⟩; refine ⟨_, rfl, ?_⟩; have n0_ := rb HO301 hb; have n1_ := rb HO309 hb; have n2_ := bb BK303 hb; have n3_ := bb BK311 hb; have n4_ := bs HB hb; revert n0_ n1_ n2_ n3_ n4_; clear HO301 HO309 BK303 BK311 HB; intro HO301 HO309 BK303 BK311 HB; (try clear hb); have hcz62_0 := bc BK303 0; have hcz62_1 := bc BK303 1; have hcz62_2 := bc BK303 2; have hcz62_3 := bc BK303 3; have hfz62_0 := bf BK303 0; have hfz62_1 := bf BK303 1; have hfz62_2 := bf BK303 2; have hfz62_3 := bf BK303 3; have hcz63_0 := bc BK311 0; have hcz63_1 := bc BK311 1; have hcz63_2 := bc BK311 2; have hcz63_3 := bc BK311 3; have hfz63_0 := bf BK311 0; have hfz63_1 := bf BK311 1; have hfz63_2 := bf BK311 2; have hfz63_3 := bf BK311 3) | ((with_reducible refine gate_callee (f := 117) rfl ?_); refine gl 46 Tryz.func117 #[.string t298, .string t306] ?_; (with_reducible refine (r02_Cmp.calls k t298 t306 t314 _ A9.out).mono ?_); rintro e w64 ⟨rfl, hb⟩; refine ⟨_, rfl, ?_⟩; have n0_ := rb HO301 hb; have n1_ := rb HO309 hb; have n2_ := bb BK303 hb; have n3_ := bb BK311 hb; have n4_ := bs HB hb; revert n0_ n1_ n2_ n3_ n4_; clear HO301 HO309 BK303 BK311 HB; intro HO301 HO309 BK303 BK311 HB; (try clear hb)))
    go_ret
    exact ⟨by first | rfl | (simp [errW_none, errW_some] <;> rfl) | (simp [*, errW_none, errW_some] <;> rfl), ba HB⟩
  ·rw [if_neg c8] at H
   have c8b0 := beq_eq_false_iff_ne.mpr c8
   have c8b1 := bne_iff_ne.mpr c8
   obtain rfl := Option.some.inj H
   go_enter Tryz.func83, Tryz.ntmps83
   go_wp2_with (first | ((with_reducible refine gate_callee (f := 116) rfl ?_); refine gl 18 Tryz.func116 #[.string a0] ?_; (with_reducible refine (r03_Split.calls k a0 t296 t297 t298 t299 t302 _ A3.out).mono ?_); rintro e w65 ⟨v300, rfl, ho0, hb⟩; refine ⟨_, rfl, ?_⟩; have n0_ := Aside0.mk (Kd.R_lower ho0 (bz HB)); have n1_ := bs HB hb; revert n0_ n1_; clear HB; intro HO301 HB; (try clear hb); (try clear ho0)) | ((with_reducible refine gate_dst (N := 5) rfl ?_); refine box_event ?hg (N := 5) ?hd (cs := #[.string (⟨#[]⟩ : ByteArray), .string (⟨#[]⟩ : ByteArray), .string (⟨#[]⟩ : ByteArray), .slice none 0 0]) (t := 146) ?hr ?_; (case hd => rfl); (case hg => rfl); (case hr => first | (go_simp; done) | (go_simp; rfl)); intro gb303 hg w66 hbox hb; have n0_ := rb HO301 hb; have n1_ := bs HB hb; have n2_ := Aside0.mk (hbox); have n3_ := gz hg HB; have n4_ := gz hg HB; revert n0_ n1_ n2_ n3_ n4_; clear HO301 HB; intro HO301 HB BK303 GW303 GE303; clear hb hbox hg; have hcz67_0 := bc BK303 0; have hcz67_1 := bc BK303 1; have hcz67_2 := bc BK303 2; have hcz67_3 := bc BK303 3; have hfz67_0 := bf BK303 0; have hfz67_1 := bf BK303 1; have hfz67_2 := bf BK303 2; have hfz67_3 := bf BK303 3; obtain ⟨Ao68, co68, eo68⟩ := Kd.R_slice HO301.out; subst eo68) | ((with_reducible refine gate_callee (f := 116) rfl ?_); refine gl 23 Tryz.func116 #[.string a1] ?_; (with_reducible refine (r03_Split.calls k a1 t304 t305 t306 t307 t310 _ A4.out).mono ?_); rintro e w69 ⟨v308, rfl, ho0, hb⟩; refine ⟨_, rfl, ?_⟩; have n0_ := Aside0.mk (Kd.R_elder' (by (with_reducible repeat (first | apply Kd.R_alloc | apply Kd.R_drewN | apply Kd.R_drew)); exact (Kd.R_mono (Kd.R_far (p := ⟨gb303, 3, none⟩) (Kd.R_far (p := ⟨gb303, 2, none⟩) (Kd.R_far (p := ⟨gb303, 1, none⟩) (Kd.R_far (p := ⟨gb303, 0, none⟩) (Kd.R_types HO301.out BK303.out (by decide)) (fun _ hk => hk.2) (.string t296)) (fun _ hk => hk.2) (.string t297)) (fun _ hk => hk.2) (.string t298)) (fun _ hk => hk.2) (.slice Ao68 t299.length co68)) (fun _ h_ => h_.1))) (Kd.R_base ho0) hb); have n1_ := Aside0.mk (Kd.R_lower (Kd.R_new' ho0 (Kd.R_lt (by (with_reducible repeat (first | apply Kd.R_alloc | apply Kd.R_drewN | apply Kd.R_drew)); exact (Kd.R_mono (Kd.R_far (p := ⟨gb303, 3, none⟩) (Kd.R_far (p := ⟨gb303, 2, none⟩) (Kd.R_far (p := ⟨gb303, 1, none⟩) (Kd.R_far (p := ⟨gb303, 0, none⟩) (Kd.R_types HO301.out BK303.out (by decide)) (fun _ hk => hk.2) (.string t296)) (fun _ hk => hk.2) (.string t297)) (fun _ hk => hk.2) (.string t298)) (fun _ hk => hk.2) (.slice Ao68 t299.length co68)) (fun _ h_ => h_.1))))) (bz HB)); have n2_ := Aside0.mk (blk_below (g := gb303) (o := .cells #[.string t296, .string t297, .string t298, .slice Ao68 t299.length co68] 146 (0, 0)) (by (with_reducible repeat (first | refine blk_drewN ?_ _ | refine blk_drew ?_ | refine blk_alloc ?_ _)); refine blk_put (cs := #[.string t296, .string t297, .string t298, .slice none 0 0]) ?_ 3 _ rfl; (with_reducible repeat (first | refine blk_drewN ?_ _ | refine blk_drew ?_ | refine blk_alloc ?_ _)); refine blk_put (cs := #[.string t296, .string t297, .string (⟨#[]⟩ : ByteArray), .slice none 0 0]) ?_ 2 _ rfl; (with_reducible repeat (first | refine blk_drewN ?_ _ | refine blk_drew ?_ | refine blk_alloc ?_ _)); refine blk_put (cs := #[.string t296, .string (⟨#[]⟩ : ByteArray), .string (⟨#[]⟩ : ByteArray), .slice none 0 0]) ?_ 1 _ rfl; (with_reducible repeat (first | refine blk_drewN ?_ _ | refine blk_drew ?_ | refine blk_alloc ?_ _)); refine blk_put (cs := #[.string (⟨#[]⟩ : ByteArray), .string (⟨#[]⟩ : ByteArray), .string (⟨#[]⟩ : ByteArray), .slice none 0 0]) ?_ 0 _ rfl; (with_reducible repeat (first | refine blk_drewN ?_ _ | refine blk_drew ?_ | refine blk_alloc ?_ _)); exact BK303.out) hb); have n3_ := bs HB hb; revert n0_ n1_ n2_ n3_; clear HO301 BK303 HB; intro HO301 HO309 BK303 HB; (try clear hb); (try clear ho0)) | ((with_reducible refine gate_dst (N := 7) rfl ?_); refine box_event ?hg (N := 7) ?hd (cs := #[.string (⟨#[]⟩ : ByteArray), .string (⟨#[]⟩ : ByteArray), .string (⟨#[]⟩ : ByteArray), .slice none 0 0]) (t := 146) ?hr ?_; (case hd => rfl); (case hg => rfl); (case hr => first | (go_simp; done) | (go_simp; rfl)); intro gb311 hg w70 hbox hb; have n0_ := rb HO301 hb; have n1_ := rb HO309 hb; have n2_ := bb BK303 hb; have n3_ := bs HB hb; have n4_ := Aside0.mk (hbox); have n5_ := gz hg HB; have n6_ := gz hg HB; have n7_ := Aside0.mk ((by rw [hg]; exact Nat.ne_of_lt (blk_lt (g := gb303) (o := .cells #[.string t296, .string t297, .string t298, .slice Ao68 t299.length co68] 146 (0, 0)) (bk BK303)) : gb303 ≠ gb311)); have n8_ := Aside0.mk ((by rw [hg]; exact Nat.ne_of_gt (blk_lt (g := gb303) (o := .cells #[.string t296, .string t297, .string t298, .slice Ao68 t299.length co68] 146 (0, 0)) (bk BK303)) : gb311 ≠ gb303)); revert n0_ n1_ n2_ n3_ n4_ n5_ n6_ n7_ n8_; clear HO301 HO309 BK303 HB; intro HO301 HO309 BK303 HB BK311 GW311 GE311 NB303_311 NB311_303; clear hb hbox hg; have hnb71 := NB311_303.out; have hnc71 := NB303_311.out; have hcz72_0 := bc BK311 0; have hcz72_1 := bc BK311 1; have hcz72_2 := bc BK311 2; have hcz72_3 := bc BK311 3; have hfz72_0 := bf BK311 0; have hfz72_1 := bf BK311 1; have hfz72_2 := bf BK311 2; have hfz72_3 := bf BK311 3; obtain ⟨Ao73, co73, eo73⟩ := Kd.R_slice HO309.out; subst eo73; have hcz74_0 := bc BK303 0; have hcz74_1 := bc BK303 1; have hcz74_2 := bc BK303 2; have hcz74_3 := bc BK303 3; have hfz74_0 := bf BK303 0; have hfz74_1 := bf BK303 1; have hfz74_2 := bf BK303 2; have hfz74_3 := bf BK303 3) | ((with_reducible refine gate_callee (f := 117) rfl ?_); refine gl 30 Tryz.func117 #[.string t296, .string t304] ?_; (with_reducible refine (r02_Cmp.calls k t296 t304 t312 _ A5.out).mono ?_); rintro e w75 ⟨rfl, hb⟩; refine ⟨_, rfl, ?_⟩; have n0_ := Aside0.mk (Kd.R_below (by (with_reducible repeat (first | apply Kd.R_alloc | apply Kd.R_drewN | apply Kd.R_drew)); exact (Kd.R_mono (Kd.R_far (p := ⟨gb311, 3, none⟩) (Kd.R_far (p := ⟨gb311, 2, none⟩) (Kd.R_far (p := ⟨gb311, 1, none⟩) (Kd.R_far (p := ⟨gb311, 0, none⟩) (Kd.R_types HO301.out BK311.out (by decide)) (fun _ hk => hk.2) (.string t304)) (fun _ hk => hk.2) (.string t305)) (fun _ hk => hk.2) (.string t306)) (fun _ hk => hk.2) (.slice Ao73 t307.length co73)) (fun _ h_ => h_.1))) hb); have n1_ := Aside0.mk (Kd.R_below (by (with_reducible repeat (first | apply Kd.R_alloc | apply Kd.R_drewN | apply Kd.R_drew)); exact (Kd.R_mono (Kd.R_far (p := ⟨gb311, 3, none⟩) (Kd.R_far (p := ⟨gb311, 2, none⟩) (Kd.R_far (p := ⟨gb311, 1, none⟩) (Kd.R_far (p := ⟨gb311, 0, none⟩) (Kd.R_types HO309.out BK311.out (by decide)) (fun _ hk => hk.2) (.string t304)) (fun _ hk => hk.2) (.string t305)) (fun _ hk => hk.2) (.string t306)) (fun _ hk => hk.2) (.slice Ao73 t307.length co73)) (fun _ h_ => h_.1))) hb); have n2_ := Aside0.mk (blk_below (g := gb303) (o := .cells #[.string t296, .string t297, .string t298, .slice Ao68 t299.length co68] 146 (0, 0)) (by (with_reducible repeat (first | refine blk_drewN ?_ _ | refine blk_drew ?_ | refine blk_alloc ?_ _)); refine blk_far ?_ NB303_311.out _; (with_reducible repeat (first | refine blk_drewN ?_ _ | refine blk_drew ?_ | refine blk_alloc ?_ _)); refine blk_far ?_ NB303_311.out _; (with_reducible repeat (first | refine blk_drewN ?_ _ | refine blk_drew ?_ | refine blk_alloc ?_ _)); refine blk_far ?_ NB303_311.out _; (with_reducible repeat (first | refine blk_drewN ?_ _ | refine blk_drew ?_ | refine blk_alloc ?_ _)); refine blk_far ?_ NB303_311.out _; (with_reducible repeat (first | refine blk_drewN ?_ _ | refine blk_drew ?_ | refine blk_alloc ?_ _)); exact BK303.out) hb); have n3_ := Aside0.mk (blk_below (g := gb311) (o := .cells #[.string t304, .string t305, .string t306, .slice Ao73 t307.length co73] 146 (0, 0)) (by (with_reducible repeat (first | refine blk_drewN ?_ _ | refine blk_drew ?_ | refine blk_alloc ?_ _)); refine blk_put (cs := #[.string t304, .string t305, .string t306, .slice none 0 0]) ?_ 3 _ rfl; (with_reducible repeat (first | refine blk_drewN ?_ _ | refine blk_drew ?_ | refine blk_alloc ?_ _)); refine blk_put (cs := #[.string t304, .string t305, .string (⟨#[]⟩ : ByteArray), .slice none 0 0]) ?_ 2 _ rfl; (with_reducible repeat (first | refine blk_drewN ?_ _ | refine blk_drew ?_ | refine blk_alloc ?_ _)); refine blk_put (cs := #[.string t304, .string (⟨#[]⟩ : ByteArray), .string (⟨#[]⟩ : ByteArray), .slice none 0 0]) ?_ 1 _ rfl; (with_reducible repeat (first | refine blk_drewN ?_ _ | refine blk_drew ?_ | refine blk_alloc ?_ _)); refine blk_put (cs := #[.string (⟨#[]⟩ : ByteArray), .string (⟨#[]⟩ : ByteArray), .string (⟨#[]⟩ : ByteArray), .slice none 0 0]) ?_ 0 _ rfl; (with_reducible repeat (first | refine blk_drewN ?_ _ | refine blk_drew ?_ | refine blk_alloc ?_ _)); exact BK311.out) hb); have n4_ := bs HB hb; revert n0_ n1_ n2_ n3_ n4_; clear HO301 HO309 BK303 BK311 HB; intro HO301 HO309 BK303 BK311 HB; (try clear hb); have hcz76_0 := bc BK303 0; have hcz76_1 := bc BK303 1; have hcz76_2 := bc BK303 2; have hcz76_3 := bc BK303 3; have hfz76_0 := bf BK303 0; have hfz76_1 := bf BK303 1; have hfz76_2 := bf BK303 2; have hfz76_3 := bf BK303 3; have hcz77_0 := bc BK311 0; have hcz77_1 := bc BK311 1; have hcz77_2 := bc BK311 2; have hcz77_3 := bc BK311 3; have hfz77_0 := bf BK311 0; have hfz77_1 := bf BK311 1; have hfz77_2 := bf BK311 2; have hfz77_3 := bf BK311 3) | ((with_reducible refine gate_callee (f := 117) rfl ?_); refine gl 38 Tryz.func117 #[.string t297, .string t305] ?_; (with_reducible refine (r02_Cmp.calls k t297 t305 t313 _ A7.out).mono ?_); rintro e w78 ⟨rfl, hb⟩; refine ⟨_, rfl, ?_⟩; have n0_ := rb HO301 hb; have n1_ := rb HO309 hb; have n2_ := bb BK303 hb; have n3_ := bb BK311 hb; have n4_ := bs HB hb; revert n0_ n1_ n2_ n3_ n4_; clear HO301 HO309 BK303 BK311 HB; intro HO301 HO309 BK303 BK311 HB; (try clear hb)))
   go_ret
   exact ⟨by first | rfl | (simp [errW_none, errW_some] <;> rfl) | (simp [*, errW_none, errW_some] <;> rfl), ba HB⟩
 ·rw [if_neg c6] at H
  have c6b0 := beq_eq_false_iff_ne.mpr c6
  have c6b1 := bne_iff_ne.mpr c6
  obtain rfl := Option.some.inj H
  go_enter Tryz.func83, Tryz.ntmps83
  go_wp2_with (first | ((with_reducible refine gate_callee (f := 116) rfl ?_); refine gl 18 Tryz.func116 #[.string a0] ?_; (with_reducible refine (r03_Split.calls k a0 t296 t297 t298 t299 t302 _ A3.out).mono ?_); rintro e w79 ⟨v300, rfl, ho0, hb⟩; refine ⟨_, rfl, ?_⟩; have n0_ := Aside0.mk (Kd.R_lower ho0 (bz HB)); have n1_ := bs HB hb; revert n0_ n1_; clear HB; intro HO301 HB; (try clear hb); (try clear ho0)) | ((with_reducible refine gate_dst (N := 5) rfl ?_); refine box_event ?hg (N := 5) ?hd (cs := #[.string (⟨#[]⟩ : ByteArray), .string (⟨#[]⟩ : ByteArray), .string (⟨#[]⟩ : ByteArray), .slice none 0 0]) (t := 146) ?hr ?_; (case hd => rfl); (case hg => rfl); (case hr => first | (go_simp; done) | (go_simp; rfl)); intro gb303 hg w80 hbox hb; have n0_ := rb HO301 hb; have n1_ := bs HB hb; have n2_ := Aside0.mk (hbox); have n3_ := gz hg HB; have n4_ := gz hg HB; revert n0_ n1_ n2_ n3_ n4_; clear HO301 HB; intro HO301 HB BK303 GW303 GE303; clear hb hbox hg; have hcz81_0 := bc BK303 0; have hcz81_1 := bc BK303 1; have hcz81_2 := bc BK303 2; have hcz81_3 := bc BK303 3; have hfz81_0 := bf BK303 0; have hfz81_1 := bf BK303 1; have hfz81_2 := bf BK303 2; have hfz81_3 := bf BK303 3; obtain ⟨Ao82, co82, eo82⟩ := Kd.R_slice HO301.out; subst eo82) | ((with_reducible refine gate_callee (f := 116) rfl ?_); refine gl 23 Tryz.func116 #[.string a1] ?_; (with_reducible refine (r03_Split.calls k a1 t304 t305 t306 t307 t310 _ A4.out).mono ?_); rintro e w83 ⟨v308, rfl, ho0, hb⟩; refine ⟨_, rfl, ?_⟩; have n0_ := Aside0.mk (Kd.R_elder' (by (with_reducible repeat (first | apply Kd.R_alloc | apply Kd.R_drewN | apply Kd.R_drew)); exact (Kd.R_mono (Kd.R_far (p := ⟨gb303, 3, none⟩) (Kd.R_far (p := ⟨gb303, 2, none⟩) (Kd.R_far (p := ⟨gb303, 1, none⟩) (Kd.R_far (p := ⟨gb303, 0, none⟩) (Kd.R_types HO301.out BK303.out (by decide)) (fun _ hk => hk.2) (.string t296)) (fun _ hk => hk.2) (.string t297)) (fun _ hk => hk.2) (.string t298)) (fun _ hk => hk.2) (.slice Ao82 t299.length co82)) (fun _ h_ => h_.1))) (Kd.R_base ho0) hb); have n1_ := Aside0.mk (Kd.R_lower (Kd.R_new' ho0 (Kd.R_lt (by (with_reducible repeat (first | apply Kd.R_alloc | apply Kd.R_drewN | apply Kd.R_drew)); exact (Kd.R_mono (Kd.R_far (p := ⟨gb303, 3, none⟩) (Kd.R_far (p := ⟨gb303, 2, none⟩) (Kd.R_far (p := ⟨gb303, 1, none⟩) (Kd.R_far (p := ⟨gb303, 0, none⟩) (Kd.R_types HO301.out BK303.out (by decide)) (fun _ hk => hk.2) (.string t296)) (fun _ hk => hk.2) (.string t297)) (fun _ hk => hk.2) (.string t298)) (fun _ hk => hk.2) (.slice Ao82 t299.length co82)) (fun _ h_ => h_.1))))) (bz HB)); have n2_ := Aside0.mk (blk_below (g := gb303) (o := .cells #[.string t296, .string t297, .string t298, .slice Ao82 t299.length co82] 146 (0, 0)) (by (with_reducible repeat (first | refine blk_drewN ?_ _ | refine blk_drew ?_ | refine blk_alloc ?_ _)); refine blk_put (cs := #[.string t296, .string t297, .string t298, .slice none 0 0]) ?_ 3 _ rfl; (with_reducible repeat (first | refine blk_drewN ?_ _ | refine blk_drew ?_ | refine blk_alloc ?_ _)); refine blk_put (cs := #[.string t296, .string t297, .string (⟨#[]⟩ : ByteArray), .slice none 0 0]) ?_ 2 _ rfl; (with_reducible repeat (first | refine blk_drewN ?_ _ | refine blk_drew ?_ | refine blk_alloc ?_ _)); refine blk_put (cs := #[.string t296, .string (⟨#[]⟩ : ByteArray), .string (⟨#[]⟩ : ByteArray), .slice none 0 0]) ?_ 1 _ rfl; (with_reducible repeat (first | refine blk_drewN ?_ _ | refine blk_drew ?_ | refine blk_alloc ?_ _)); refine blk_put (cs := #[.string (⟨#[]⟩ : ByteArray), .string (⟨#[]⟩ : ByteArray), .string (⟨#[]⟩ : ByteArray), .slice none 0 0]) ?_ 0 _ rfl; (with_reducible repeat (first | refine blk_drewN ?_ _ | refine blk_drew ?_ | refine blk_alloc ?_ _)); exact BK303.out) hb); have n3_ := bs HB hb; revert n0_ n1_ n2_ n3_; clear HO301 BK303 HB; intro HO301 HO309 BK303 HB; (try clear hb); (try clear ho0)) | ((with_reducible refine gate_dst (N := 7) rfl ?_); refine box_event ?hg (N := 7) ?hd (cs := #[.string (⟨#[]⟩ : ByteArray), .string (⟨#[]⟩ : ByteArray), .string (⟨#[]⟩ : ByteArray), .slice none 0 0]) (t := 146) ?hr ?_; (case hd => rfl); (case hg => rfl); (case hr => first | (go_simp; done) | (go_simp; rfl)); intro gb311 hg w84 hbox hb; have n0_ := rb HO301 hb; have n1_ := rb HO309 hb; have n2_ := bb BK303 hb; have n3_ := bs HB hb; have n4_ := Aside0.mk (hbox); have n5_ := gz hg HB; have n6_ := gz hg HB; have n7_ := Aside0.mk ((by rw [hg]; exact Nat.ne_of_lt (blk_lt (g := gb303) (o := .cells #[.string t296, .string t297, .string t298, .slice Ao82 t299.length co82] 146 (0, 0)) (bk BK303)) : gb303 ≠ gb311)); have n8_ := Aside0.mk ((by rw [hg]; exact Nat.ne_of_gt (blk_lt (g := gb303) (o := .cells #[.string t296, .string t297, .string t298, .slice Ao82 t299.length co82] 146 (0, 0)) (bk BK303)) : gb311 ≠ gb303)); revert n0_ n1_ n2_ n3_ n4_ n5_ n6_ n7_ n8_; clear HO301 HO309 BK303 HB; intro HO301 HO309 BK303 HB BK311 GW311 GE311 NB303_311 NB311_303; clear hb hbox hg; have hnb85 := NB311_303.out; have hnc85 := NB303_311.out; have hcz86_0 := bc BK311 0; have hcz86_1 := bc BK311 1; have hcz86_2 := bc BK311 2; have hcz86_3 := bc BK311 3; have hfz86_0 := bf BK311 0; have hfz86_1 := bf BK311 1; have hfz86_2 := bf BK311 2; have hfz86_3 := bf BK311 3; obtain ⟨Ao87, co87, eo87⟩ := Kd.R_slice HO309.out; subst eo87; have hcz88_0 := bc BK303 0; have hcz88_1 := bc BK303 1; have hcz88_2 := bc BK303 2; have hcz88_3 := bc BK303 3; have hfz88_0 := bf BK303 0; have hfz88_1 := bf BK303 1; have hfz88_2 := bf BK303 2; have hfz88_3 := bf BK303 3) | ((with_reducible refine gate_callee (f := 117) rfl ?_); refine gl 30 Tryz.func117 #[.string t296, .string t304] ?_; (with_reducible refine (r02_Cmp.calls k t296 t304 t312 _ A5.out).mono ?_); rintro e w89 ⟨rfl, hb⟩; refine ⟨_, rfl, ?_⟩; have n0_ := Aside0.mk (Kd.R_below (by (with_reducible repeat (first | apply Kd.R_alloc | apply Kd.R_drewN | apply Kd.R_drew)); exact (Kd.R_mono (Kd.R_far (p := ⟨gb311, 3, none⟩) (Kd.R_far (p := ⟨gb311, 2, none⟩) (Kd.R_far (p := ⟨gb311, 1, none⟩) (Kd.R_far (p := ⟨gb311, 0, none⟩) (Kd.R_types HO301.out BK311.out (by decide)) (fun _ hk => hk.2) (.string t304)) (fun _ hk => hk.2) (.string t305)) (fun _ hk => hk.2) (.string t306)) (fun _ hk => hk.2) (.slice Ao87 t307.length co87)) (fun _ h_ => h_.1))) hb); have n1_ := Aside0.mk (Kd.R_below (by (with_reducible repeat (first | apply Kd.R_alloc | apply Kd.R_drewN | apply Kd.R_drew)); exact (Kd.R_mono (Kd.R_far (p := ⟨gb311, 3, none⟩) (Kd.R_far (p := ⟨gb311, 2, none⟩) (Kd.R_far (p := ⟨gb311, 1, none⟩) (Kd.R_far (p := ⟨gb311, 0, none⟩) (Kd.R_types HO309.out BK311.out (by decide)) (fun _ hk => hk.2) (.string t304)) (fun _ hk => hk.2) (.string t305)) (fun _ hk => hk.2) (.string t306)) (fun _ hk => hk.2) (.slice Ao87 t307.length co87)) (fun _ h_ => h_.1))) hb); have n2_ := Aside0.mk (blk_below (g := gb303) (o := .cells #[.string t296, .string t297, .string t298, .slice Ao82 t299.length co82] 146 (0, 0)) (by (with_reducible repeat (first | refine blk_drewN ?_ _ | refine blk_drew ?_ | refine blk_alloc ?_ _)); refine blk_far ?_ NB303_311.out _; (with_reducible repeat (first | refine blk_drewN ?_ _ | refine blk_drew ?_ | refine blk_alloc ?_ _)); refine blk_far ?_ NB303_311.out _; (with_reducible repeat (first | refine blk_drewN ?_ _ | refine blk_drew ?_ | refine blk_alloc ?_ _)); refine blk_far ?_ NB303_311.out _; (with_reducible repeat (first | refine blk_drewN ?_ _ | refine blk_drew ?_ | refine blk_alloc ?_ _)); refine blk_far ?_ NB303_311.out _; (with_reducible repeat (first | refine blk_drewN ?_ _ | refine blk_drew ?_ | refine blk_alloc ?_ _)); exact BK303.out) hb); have n3_ := Aside0.mk (blk_below (g := gb311) (o := .cells #[.string t304, .string t305, .string t306, .slice Ao87 t307.length co87] 146 (0, 0)) (by (with_reducible repeat (first | refine blk_drewN ?_ _ | refine blk_drew ?_ | refine blk_alloc ?_ _)); refine blk_put (cs := #[.string t304, .string t305, .string t306, .slice none 0 0]) ?_ 3 _ rfl; (with_reducible repeat (first | refine blk_drewN ?_ _ | refine blk_drew ?_ | refine blk_alloc ?_ _)); refine blk_put (cs := #[.string t304, .string t305, .string (⟨#[]⟩ : ByteArray), .slice none 0 0]) ?_ 2 _ rfl; (with_reducible repeat (first | refine blk_drewN ?_ _ | refine blk_drew ?_ | refine blk_alloc ?_ _)); refine blk_put (cs := #[.string t304, .string (⟨#[]⟩ : ByteArray), .string (⟨#[]⟩ : ByteArray), .slice none 0 0]) ?_ 1 _ rfl; (with_reducible repeat (first | refine blk_drewN ?_ _ | refine blk_drew ?_ | refine blk_alloc ?_ _)); refine blk_put (cs := #[.string (⟨#[]⟩ : ByteArray), .string (⟨#[]⟩ : ByteArray), .string (⟨#[]⟩ : ByteArray), .slice none 0 0]) ?_ 0 _ rfl; (with_reducible repeat (first | refine blk_drewN ?_ _ | refine blk_drew ?_ | refine blk_alloc ?_ _)); exact BK311.out) hb); have n4_ := bs HB hb; revert n0_ n1_ n2_ n3_ n4_; clear HO301 HO309 BK303 BK311 HB; intro HO301 HO309 BK303 BK311 HB; (try clear hb)))
  go_ret
  exact ⟨by first | rfl | (simp [errW_none, errW_some] <;> rfl) | (simp [*, errW_none, errW_some] <;> rfl), ba HB⟩
end Go.Proofs.YtjfcmkddeglghaaGreatDoor.G
end
section
namespace Go.Proofs.YtjfcmkddeglghaaGreatDoor.G
open Go.RowKit Go.Proofs.YtjfcmkddeglghaaGreatDoorW.PrintWords Go.Proofs.YtjfcmkddeglghaaGreatDoorW.PrintLast Go.Proofs.YtjfcmkddeglghaaGreatDoorW.PrintMore
attribute [local go_sem] max2_int min2_int max_two min_two max_three min_three max_four min_four
set_option linter.unusedVariables false
set_option linter.unusedSimpArgs false
def r05_Less.f (k : Nat) (a0_0 : ByteArray) (a0_1 : ByteArray) (a1_0 : ByteArray) (a1_1 : ByteArray) : Option (Bool) := (r01_Cmp.f k a0_0 a1_0).bind fun t320 => (if t320 < 0 then (some true) else (if t320 = 0 then ((r03_Cmp.f k a0_1 a1_1).bind fun t321 => (some (decide (t321 < 0)))) else (some false)))
theorem r05_Less.mono : ∀ a0 a1 a2 a3 k, LeO (r05_Less.f k a0 a1 a2 a3) (r05_Less.f (k + 1) a0 a1 a2 a3) := by
 intro a0 a1 a2 a3 k
 unfold r05_Less.f
 repeat' first
   | (with_reducible exact r01_Cmp.mono _ _ _)
   | (with_reducible exact r03_Cmp.mono _ _ _)
   | (with_reducible exact LeO.refl _)
   | (with_reducible exact LeO.none _)
   | (with_reducible refine LeO.ite ?_ ?_)
   | (with_reducible refine LeO.bind ?_ (fun _ => ?_))
   | exact r01_Cmp.mono _ _ _
   | exact r03_Cmp.mono _ _ _
   | exact LeO.none _
   | refine LeO.ite ?_ ?_
   | refine LeO.bind ?_ (fun _ => ?_)
set_option maxHeartbeats 8000000 in
set_option maxRecDepth 100000 in
theorem r05_Less.calls (k : Nat) (a0_0 : ByteArray) (a0_1 : ByteArray) (a1_0 : ByteArray) (a1_1 : ByteArray) (r : Bool) (w : World) (h : r05_Less.f k a0_0 a0_1 a1_0 a1_1 = some r) :
  Calls Tryz.prog 28 #[.agg #[.string a0_0, .string a0_1], .agg #[.string a1_0, .string a1_1]] w fun e w' => e = .returned (.bool r) ∧ Below w.heap.size w w' := by
 have hu24 := Tryz.underlying24
 have HB := Aside0.mk (Below.refl w.heap.size w)
 have H : ((r01_Cmp.f k a0_0 a1_0).bind fun t320 => (if t320 < 0 then (some true) else (if t320 = 0 then ((r03_Cmp.f k a0_1 a1_1).bind fun t321 => (some (decide (t321 < 0)))) else (some false)))) = some r := h
 clear h
 obtain ⟨t320, A3, H⟩ := bo H
 by_cases c4 : t320 < 0
 ·rw [if_pos c4] at H
  have c4b0 : decide (t320 < 0) = true := decide_eq_true c4
  clear c4
  obtain rfl := Option.some.inj H
  go_enter Tryz.func28, Tryz.ntmps28
  go_wp2_with (first | ((with_reducible refine gate_dst (N := 2) rfl ?_); refine box_event ?hg (N := 2) ?hd (cs := #[.string a0_0, .string a0_1]) (t := 24) ?hr ?_; (case hd => rfl); (case hg => rfl); (case hr => first | (go_simp; done) | (go_simp; rfl)); intro gb318 hg w5 hbox hb; have n0_ := bs HB hb; have n1_ := Aside0.mk (hbox); have n2_ := gz hg HB; have n3_ := gz hg HB; revert n0_ n1_ n2_ n3_; clear HB; intro HB BK318 GW318 GE318; clear hb hbox hg) | ((with_reducible refine gate_dst (N := 3) rfl ?_); refine box_event ?hg (N := 3) ?hd (cs := #[.string a1_0, .string a1_1]) (t := 24) ?hr ?_; (case hd => rfl); (case hg => rfl); (case hr => first | (go_simp; done) | (go_simp; rfl)); intro gb319 hg w6 hbox hb; have n0_ := bb BK318 hb; have n1_ := bs HB hb; have n2_ := Aside0.mk (hbox); have n3_ := gz hg HB; have n4_ := gz hg HB; have n5_ := Aside0.mk ((by rw [hg]; exact Nat.ne_of_lt (blk_lt (g := gb318) (o := .cells #[.string a0_0, .string a0_1] 24 (0, 0)) (bk BK318)) : gb318 ≠ gb319)); have n6_ := Aside0.mk ((by rw [hg]; exact Nat.ne_of_gt (blk_lt (g := gb318) (o := .cells #[.string a0_0, .string a0_1] 24 (0, 0)) (bk BK318)) : gb319 ≠ gb318)); revert n0_ n1_ n2_ n3_ n4_ n5_ n6_; clear BK318 HB; intro BK318 HB BK319 GW319 GE319 NB318_319 NB319_318; clear hb hbox hg; have hnb7 := NB318_319.out; have hnc7 := NB319_318.out; have hcz8_0 := bc BK318 0; have hcz8_1 := bc BK318 1; have hfz8_0 := bf BK318 0; have hfz8_1 := bf BK318 1; have hcz9_0 := bc BK319 0; have hcz9_1 := bc BK319 1; have hfz9_0 := bf BK319 0; have hfz9_1 := bf BK319 1) | ((with_reducible refine gate_callee (f := 82) rfl ?_); refine gl 10 Tryz.func82 #[.string a0_0, .string a1_0] ?_; (with_reducible refine (r01_Cmp.calls k a0_0 a1_0 t320 _ A3.out).mono ?_); rintro e w' ⟨rfl, ⟨nd, rfl⟩⟩; refine ⟨_, rfl, ?_⟩))
  go_ret
  exact ⟨by first | rfl | (simp [errW_none, errW_some] <;> rfl) | (simp [*, errW_none, errW_some] <;> rfl), ba HB⟩
 ·rw [if_neg c4] at H
  have c4b0 : decide (t320 < 0) = false := decide_eq_false c4
  clear c4
  by_cases c10 : t320 = 0
  ·rw [if_pos c10] at H
   have c10b0 := beq_iff_eq.mpr c10
   have c10b1 := bne_eq_false_iff_eq.mpr c10
   clear c10
   obtain ⟨t321, A11, H⟩ := bo H
   obtain rfl := Option.some.inj H
   go_enter Tryz.func28, Tryz.ntmps28
   go_wp2_with (first | ((with_reducible refine gate_dst (N := 2) rfl ?_); refine box_event ?hg (N := 2) ?hd (cs := #[.string a0_0, .string a0_1]) (t := 24) ?hr ?_; (case hd => rfl); (case hg => rfl); (case hr => first | (go_simp; done) | (go_simp; rfl)); intro gb318 hg w12 hbox hb; have n0_ := bs HB hb; have n1_ := Aside0.mk (hbox); have n2_ := gz hg HB; have n3_ := gz hg HB; revert n0_ n1_ n2_ n3_; clear HB; intro HB BK318 GW318 GE318; clear hb hbox hg) | ((with_reducible refine gate_dst (N := 3) rfl ?_); refine box_event ?hg (N := 3) ?hd (cs := #[.string a1_0, .string a1_1]) (t := 24) ?hr ?_; (case hd => rfl); (case hg => rfl); (case hr => first | (go_simp; done) | (go_simp; rfl)); intro gb319 hg w13 hbox hb; have n0_ := bb BK318 hb; have n1_ := bs HB hb; have n2_ := Aside0.mk (hbox); have n3_ := gz hg HB; have n4_ := gz hg HB; have n5_ := Aside0.mk ((by rw [hg]; exact Nat.ne_of_lt (blk_lt (g := gb318) (o := .cells #[.string a0_0, .string a0_1] 24 (0, 0)) (bk BK318)) : gb318 ≠ gb319)); have n6_ := Aside0.mk ((by rw [hg]; exact Nat.ne_of_gt (blk_lt (g := gb318) (o := .cells #[.string a0_0, .string a0_1] 24 (0, 0)) (bk BK318)) : gb319 ≠ gb318)); revert n0_ n1_ n2_ n3_ n4_ n5_ n6_; clear BK318 HB; intro BK318 HB BK319 GW319 GE319 NB318_319 NB319_318; clear hb hbox hg; have hnb14 := NB318_319.out; have hnc14 := NB319_318.out; have hcz15_0 := bc BK318 0; have hcz15_1 := bc BK318 1; have hfz15_0 := bf BK318 0; have hfz15_1 := bf BK318 1; have hcz16_0 := bc BK319 0; have hcz16_1 := bc BK319 1; have hfz16_0 := bf BK319 0; have hfz16_1 := bf BK319 1) | ((with_reducible refine gate_callee (f := 82) rfl ?_); refine gl 10 Tryz.func82 #[.string a0_0, .string a1_0] ?_; (with_reducible refine (r01_Cmp.calls k a0_0 a1_0 t320 _ A3.out).mono ?_); rintro e w' ⟨rfl, ⟨nd, rfl⟩⟩; refine ⟨_, rfl, ?_⟩) | (go_at_call 83; (with_reducible refine (r03_Cmp.calls k a0_1 a1_1 t321 _ A11.out).mono ?_); rintro e w17 ⟨rfl, hb⟩; have n0_ := bb BK318 hb; have n1_ := bb BK319 hb; have n2_ := bs HB hb; revert n0_ n1_ n2_; clear BK318 BK319 HB; intro BK318 BK319 HB; (try clear hb)))
   go_ret
   exact ⟨by first | rfl | (simp [errW_none, errW_some] <;> rfl) | (simp [*, errW_none, errW_some] <;> rfl), ba HB⟩
  ·rw [if_neg c10] at H
   have c10b0 := beq_eq_false_iff_ne.mpr c10
   have c10b1 := bne_iff_ne.mpr c10
   obtain rfl := Option.some.inj H
   go_enter Tryz.func28, Tryz.ntmps28
   go_wp2_with (first | ((with_reducible refine gate_dst (N := 2) rfl ?_); refine box_event ?hg (N := 2) ?hd (cs := #[.string a0_0, .string a0_1]) (t := 24) ?hr ?_; (case hd => rfl); (case hg => rfl); (case hr => first | (go_simp; done) | (go_simp; rfl)); intro gb318 hg w18 hbox hb; have n0_ := bs HB hb; have n1_ := Aside0.mk (hbox); have n2_ := gz hg HB; have n3_ := gz hg HB; revert n0_ n1_ n2_ n3_; clear HB; intro HB BK318 GW318 GE318; clear hb hbox hg) | ((with_reducible refine gate_dst (N := 3) rfl ?_); refine box_event ?hg (N := 3) ?hd (cs := #[.string a1_0, .string a1_1]) (t := 24) ?hr ?_; (case hd => rfl); (case hg => rfl); (case hr => first | (go_simp; done) | (go_simp; rfl)); intro gb319 hg w19 hbox hb; have n0_ := bb BK318 hb; have n1_ := bs HB hb; have n2_ := Aside0.mk (hbox); have n3_ := gz hg HB; have n4_ := gz hg HB; have n5_ := Aside0.mk ((by rw [hg]; exact Nat.ne_of_lt (blk_lt (g := gb318) (o := .cells #[.string a0_0, .string a0_1] 24 (0, 0)) (bk BK318)) : gb318 ≠ gb319)); have n6_ := Aside0.mk ((by rw [hg]; exact Nat.ne_of_gt (blk_lt (g := gb318) (o := .cells #[.string a0_0, .string a0_1] 24 (0, 0)) (bk BK318)) : gb319 ≠ gb318)); revert n0_ n1_ n2_ n3_ n4_ n5_ n6_; clear BK318 HB; intro BK318 HB BK319 GW319 GE319 NB318_319 NB319_318; clear hb hbox hg; have hnb20 := NB318_319.out; have hnc20 := NB319_318.out; have hcz21_0 := bc BK318 0; have hcz21_1 := bc BK318 1; have hfz21_0 := bf BK318 0; have hfz21_1 := bf BK318 1; have hcz22_0 := bc BK319 0; have hcz22_1 := bc BK319 1; have hfz22_0 := bf BK319 0; have hfz22_1 := bf BK319 1) | ((with_reducible refine gate_callee (f := 82) rfl ?_); refine gl 10 Tryz.func82 #[.string a0_0, .string a1_0] ?_; (with_reducible refine (r01_Cmp.calls k a0_0 a1_0 t320 _ A3.out).mono ?_); rintro e w' ⟨rfl, ⟨nd, rfl⟩⟩; refine ⟨_, rfl, ?_⟩))
   go_ret
   exact ⟨by first | rfl | (simp [errW_none, errW_some] <;> rfl) | (simp [*, errW_none, errW_some] <;> rfl), ba HB⟩
end Go.Proofs.YtjfcmkddeglghaaGreatDoor.G
end
section
namespace Go.Proofs.YtjfcmkddeglghaaGreatDoor.G
open Go.RowKit Go.Proofs.YtjfcmkddeglghaaGreatDoorW.PrintWords Go.Proofs.YtjfcmkddeglghaaGreatDoorW.PrintLast Go.Proofs.YtjfcmkddeglghaaGreatDoorW.PrintMore
attribute [local go_sem] max2_int min2_int max_two min_two max_three min_three max_four min_four
set_option linter.unusedVariables false
set_option linter.unusedSimpArgs false
mutual
def r05_With.l0 : Nat → List (S24) → List (S24) → Int → ByteArray → ByteArray → Option ((List (S24)))
 | 0, _, _, _, _, _ => none
 | k + 1, x0, x5, x6, x323000, x323001 => if x6 < (x0.length : Int) then (if 0 ≤ x6 then ((r05_Less.f k ((rd_T24 x0 x6).f0) ((rd_T24 x0 x6).f1) x323000 x323001).bind fun t324 => (if t324 = true then (if x5.length < 4398046511104 then (r05_With.l0 k x0 (x5 ++ [(⟨(rd_T24 x0 x6).f0, (rd_T24 x0 x6).f1⟩ : S24)]) (wrap64 (x6 + 1)) x323000 x323001) else (none)) else (r05_With.l0 k x0 x5 (wrap64 (x6 + 1)) x323000 x323001))) else (none)) else (if x5.length < 4398046511104 then (r05_With.l1 k x0 (x5 ++ [(⟨x323000, x323001⟩ : S24)]) 0 x323000 x323001) else (none))
def r05_With.l1 : Nat → List (S24) → List (S24) → Int → ByteArray → ByteArray → Option ((List (S24)))
 | 0, _, _, _, _, _ => none
 | k + 1, x0, x5, x7, x323000, x323001 => if x7 < (x0.length : Int) then (if 0 ≤ x7 then ((r05_Less.f k x323000 x323001 ((rd_T24 x0 x7).f0) ((rd_T24 x0 x7).f1)).bind fun t333 => (if t333 = true then (if x5.length < 4398046511104 then (r05_With.l1 k x0 (x5 ++ [(⟨(rd_T24 x0 x7).f0, (rd_T24 x0 x7).f1⟩ : S24)]) (wrap64 (x7 + 1)) x323000 x323001) else (none)) else (r05_With.l1 k x0 x5 (wrap64 (x7 + 1)) x323000 x323001))) else (none)) else (some x5)
end
def r05_With.f (k : Nat) (l0 : List (S24)) (a1_0 : ByteArray) (a1_1 : ByteArray) : Option ((List (S24))) := r05_With.l0 k l0 ([] : List (S24)) 0 a1_0 a1_1
theorem r05_With.mono_l : ∀ k, (∀ y0 y1 y2 y3 y4, LeO (r05_With.l0 k y0 y1 y2 y3 y4) (r05_With.l0 (k + 1) y0 y1 y2 y3 y4)) ∧ (∀ y0 y1 y2 y3 y4, LeO (r05_With.l1 k y0 y1 y2 y3 y4) (r05_With.l1 (k + 1) y0 y1 y2 y3 y4))
 | 0 => ⟨fun _ _ _ _ _ r h => by simp [r05_With.l0] at h, fun _ _ _ _ _ r h => by simp [r05_With.l1] at h⟩
 | k + 1 => by
  obtain ⟨ih0, ih1⟩ := r05_With.mono_l k
  refine ⟨?_, ?_⟩
  ·intro y0 y1 y2 y3 y4
   unfold r05_With.l0
   repeat' first
   | (with_reducible exact ih0 _ _ _ _ _)
   | (with_reducible exact ih1 _ _ _ _ _)
   | (with_reducible exact r05_Less.mono _ _ _ _ _)
   | (with_reducible exact LeO.refl _)
   | (with_reducible exact LeO.none _)
   | (with_reducible refine LeO.ite ?_ ?_)
   | (with_reducible refine LeO.bind ?_ (fun _ => ?_))
   | exact ih0 _ _ _ _ _
   | exact ih1 _ _ _ _ _
   | exact r05_Less.mono _ _ _ _ _
   | exact LeO.none _
   | refine LeO.ite ?_ ?_
   | refine LeO.bind ?_ (fun _ => ?_)
  ·intro y0 y1 y2 y3 y4
   unfold r05_With.l1
   repeat' first
   | (with_reducible exact ih0 _ _ _ _ _)
   | (with_reducible exact ih1 _ _ _ _ _)
   | (with_reducible exact r05_Less.mono _ _ _ _ _)
   | (with_reducible exact LeO.refl _)
   | (with_reducible exact LeO.none _)
   | (with_reducible refine LeO.ite ?_ ?_)
   | (with_reducible refine LeO.bind ?_ (fun _ => ?_))
   | exact ih0 _ _ _ _ _
   | exact ih1 _ _ _ _ _
   | exact r05_Less.mono _ _ _ _ _
   | exact LeO.none _
   | refine LeO.ite ?_ ?_
   | refine LeO.bind ?_ (fun _ => ?_)
theorem r05_With.mono : ∀ a0 a1 a2 k, LeO (r05_With.f k a0 a1 a2) (r05_With.f (k + 1) a0 a1 a2) := by
 intro a0 a1 a2 k
 obtain ⟨ih0, ih1⟩ := r05_With.mono_l k
 unfold r05_With.f
 repeat' first
   | (with_reducible exact ih0 _ _ _ _ _)
   | (with_reducible exact ih1 _ _ _ _ _)
   | (with_reducible exact r05_Less.mono _ _ _ _ _)
   | (with_reducible exact LeO.refl _)
   | (with_reducible exact LeO.none _)
   | (with_reducible refine LeO.ite ?_ ?_)
   | (with_reducible refine LeO.bind ?_ (fun _ => ?_))
   | exact ih0 _ _ _ _ _
   | exact ih1 _ _ _ _ _
   | exact r05_Less.mono _ _ _ _ _
   | exact LeO.none _
   | refine LeO.ite ?_ ?_
   | refine LeO.bind ?_ (fun _ => ?_)
set_option maxHeartbeats 8000000 in
set_option maxRecDepth 100000 in
theorem r05_With.calls (k : Nat) (A0 : Option Addr) (c0 : Nat) (l0 : List (S24)) (a1_0 : ByteArray) (a1_1 : ByteArray) (r : List (S24)) (w : World) (hr0 : Kd.C k24 w A0 l0.length l0) (hc0 : l0.length ≤ c0) (h : r05_With.f k l0 a1_0 a1_1 = some r) :
  Calls Tryz.prog 80 #[.slice A0 l0.length c0, .agg #[.string a1_0, .string a1_1]] w fun e w' => ∃ v0_ : Value, e = .returned (v0_) ∧ Kd.R k24 24 w' w.heap.size (fun _ => True) v0_ r ∧ Below w.heap.size w w' := by
 have hu24 := Tryz.underlying24
 have HR0 := Aside0.mk hr0
 have HC0 := Aside0.mk hc0
 clear hr0 hc0
 have HB := Aside0.mk (Below.refl w.heap.size w)
 have H : (r05_With.l0 k l0 ([] : List (S24)) 0 a1_0 a1_1) = some r := h
 clear h
 have H' := Aside0.mk H
 clear H
 go_enter Tryz.func80, Tryz.ntmps80
 go_wp2_with (first | ((with_reducible refine gate_dst (N := 3) rfl ?_); refine box_event ?hg (N := 3) ?hd (cs := #[.string a1_0, .string a1_1]) (t := 24) ?hr ?_; (case hd => rfl); (case hg => rfl); (case hr => first | (go_simp; done) | (go_simp; rfl)); intro gb322 hg w3 hbox hb; have n0_ := bs HB hb; have n1_ := Aside0.mk (hbox); have n2_ := gz hg HB; have n3_ := gz hg HB; revert n0_ n1_ n2_ n3_; clear HB; intro HB BK322 GW322 GE322; clear hb hbox hg))
 go_loopg [5, 6] k (fun kq v5 v6 w' => ∃ (x5_1 : List (S24)) (x6_1 : Int), v6 = .int .i64 x6_1 ∧ Aside0 (r05_With.l0 kq l0 x5_1 x6_1 a1_0 a1_1 = some r) ∧ Aside0 (kq ≤ k) ∧ Aside0 (Kd.R k24 24 w' w.heap.size (fun k_ => k_ ≠ gb322) v5 x5_1) ∧ Aside0 (w'.heap[gb322]? = some (.cells #[.string a1_0, .string a1_1] 24 (0, 0))) ∧ Aside0 (Below w.heap.size w w'))
 case atStart => exact ⟨(([] : List (S24))), (0), (by first | rfl | (simp; done) | (simp [*]; done)), H', ⟨Nat.le_refl _⟩, ⟨by first | exact Kd.R_nil _ _ _ _ _ | exact Kd.N_nil _ _ _ _ _ | exact Kd.V_nil _ _ _ _ _ | exact Kd.Q_nil _ _ _ _ _ | exact Kd.S_nil _ _ _ _ _⟩, ⟨by (with_reducible repeat (first | refine blk_drewN ?_ _ | refine blk_drew ?_ | refine blk_alloc ?_ _)); exact BK322.out⟩, ⟨ba HB⟩⟩
 case round =>
  clear H'
  try clear p2
  obtain ⟨x5_1, x6_1, rfl, HA, HK1, HO_5, BK322, HB⟩ := hrel
  cases gk with
  | zero => exact absurd HA.out (by simp [r05_With.l0])
  | succ k1 =>
   have H := HA.out
   clear HA
   simp only [r05_With.l0] at H
   by_cases c4 : x6_1 < (l0.length : Int)
   ·rw [if_pos c4] at H
    have c4b0 : decide (x6_1 < (l0.length : Int)) = true := decide_eq_true c4
    clear c4
    by_cases c5 : 0 ≤ x6_1
    ·rw [if_pos c5] at H
     have c5b0 : decide (0 ≤ x6_1) = true := decide_eq_true c5
     clear c5
     obtain ⟨t324, A6, H⟩ := bo H
     by_cases c7 : t324 = true
     ·subst c7
      replace H := it H
      by_cases c8 : x5_1.length < 4398046511104
      ·rw [if_pos c8] at H
       have LMc8 := Aside0.mk c8
       clear c8
       obtain ⟨y326, hy326⟩ : ∃ y_ : List (S24), y_ = (x5_1 ++ [(⟨(rd_T24 l0 x6_1).f0, (rd_T24 l0 x6_1).f1⟩ : S24)]) := ⟨_, rfl⟩
       replace H : (r05_With.l0 k1 l0 y326 (wrap64 (x6_1 + 1)) a1_0 a1_1) = some r := by first | (rw [hy326]; with_reducible exact H) | (have H2_ := (Option.bind_some _ _).symm.trans H; rw [hy326]; with_reducible exact H2_) | (have H2_ := (Option.bind_some _ _).symm.trans H; with_reducible exact H2_) | with_reducible exact H | (rw [hy326]; exact H) | exact H
       have Ny326 := Aside0.mk hy326
       clear hy326
       have H' := Aside0.mk H
       clear H
       try go_wp2
       have n0_ := Aside0.mk (Kd.R_drew HO_5.out)
       have n1_ := Aside0.mk (blk_drew BK322.out)
       have n2_ := Aside0.mk (below_drew1 HB.out)
       revert n0_ n1_ n2_
       clear HO_5 BK322 HB
       intro HO_5 BK322 HB
       have p323 : 0 ≤ (x6_1 : Int) := of_decide_eq_true (by first | (with_reducible assumption) | assumption)
       have q323 : x6_1 < (l0.length : Int) := of_decide_eq_true (by first | (with_reducible assumption) | assumption)
       obtain ⟨ad323, e323, hx323_0, hx323_1⟩ := at_T24 HR0.out x6_1 p323 q323
       have hw323_1 := hx323_1
       have hw323_0 := hx323_0
       cases e323
       replace hx323_0 := (HB.out.cell (World.block_lt_of_cell? w _ hx323_0)).trans hx323_0
       replace hx323_1 := (HB.out.cell (World.block_lt_of_cell? w _ hx323_1)).trans hx323_1
       replace p323 := eq_true p323
       replace q323 := eq_true q323
       refine start_ (n := 6) (S := fun w' => w'.cell? ⟨gb322, 0, none⟩ = some (.string a1_0) ∧ w'.cell? ⟨gb322, 1, none⟩ = some (.string a1_1) ∧ w'.cell? (ad323.add ((x6_1).toNat * 2)) = some (.string ((rd_T24 l0 x6_1).f0)) ∧ w'.cell? ⟨(ad323.add ((x6_1).toNat * 2)).block, (ad323.add ((x6_1).toNat * 2)).off + 1, none⟩ = some (.string ((rd_T24 l0 x6_1).f1))) (ds := []) #[false, false, false, false, false, false] (by kernel_rfl) rfl rfl ⟨bc BK322 0, bc BK322 1, ((HB.out.cell (World.block_lt_of_cell? w _ hw323_0)).trans hw323_0), ((HB.out.cell (World.block_lt_of_cell? w _ hw323_1)).trans hw323_1)⟩ (fun hHeld => ?_)
       generalize wr.drew = w9 at HO_5 BK322 HB hx323_0 hx323_1 hHeld ⊢
       refine pu 0 14 ?_
       refine pu 1 15 ?_
       refine pu 2 16 ?_
       refine tk 3 17 ?_
       refine tk 4 18 ?_
       refine oq 5 (some 19) fun K hK => ?_
       refine gs Tryz.func28 #[.agg #[.string ((rd_T24 l0 x6_1).f0), .string ((rd_T24 l0 x6_1).f1)], .agg #[.string a1_0, .string a1_1]] ?_
       with_reducible refine (r05_Less.calls k1 ((rd_T24 l0 x6_1).f0) ((rd_T24 l0 x6_1).f1) a1_0 a1_1 true _ A6.out).mono ?_
       rintro e w10 ⟨rfl, hb⟩
       refine ⟨_, rfl, ?_⟩
       have n0_ := rb HO_5 hb
       have n1_ := bb BK322 hb
       have n2_ := bs HB hb
       revert n0_ n1_ n2_
       clear HO_5 BK322 HB
       intro HO_5 BK322 HB
       try clear hb
       refine hK.out _ _ ⟨bc BK322 0, bc BK322 1, ((HB.out.cell (World.block_lt_of_cell? w _ hw323_0)).trans hw323_0), ((HB.out.cell (World.block_lt_of_cell? w _ hw323_1)).trans hw323_1)⟩ (fun hHeld => ?_)
       clear hK K
       refine nm ?_
       refine dq ?_
       have p325 : 0 ≤ (x6_1 : Int) := of_decide_eq_true (by first | (with_reducible assumption) | assumption)
       have q325 : x6_1 < (l0.length : Int) := of_decide_eq_true (by first | (with_reducible assumption) | assumption)
       obtain ⟨ad325, e325, hx325_0, hx325_1⟩ := at_T24 HR0.out x6_1 p325 q325
       obtain rfl : ad323 = ad325 := (by injection e325)
       replace hx325_0 := (HB.out.cell (World.block_lt_of_cell? w _ hx325_0)).trans hx325_0
       replace hx325_1 := (HB.out.cell (World.block_lt_of_cell? w _ hx325_1)).trans hx325_1
       replace p325 := eq_true p325
       replace q325 := eq_true q325
       try go_wp2_with (first | ((with_reducible refine gate_builtin (b := .append) (xs := #[.tmp 20, .tmp 25]) rfl ?_); at_builtin; refine Kd.R_append k24 (w0 := w) w.heap.size rfl (.tmp 20) (.tmp 25) 31 24 (.agg #[(.string ⟨#[]⟩), (.string ⟨#[]⟩)]) 32 rfl Tryz.underlying31 info24 rfl (by decide) (by omega) u5 x5_1 (⟨(rd_T24 l0 x6_1).f0, (rd_T24 l0 x6_1).f1⟩ : S24) [.string ((rd_T24 l0 x6_1).f0), .string ((rd_T24 l0 x6_1).f1)] (fun k_ => k_ ≠ gb322) (fun _ => False) rfl rfl ?aP (fun _ hk => hk.elim) ?aF ?aO ?aB ?aS ?aL ?_; (case aP => exact k24_mkM _ _ _ (⟨(rd_T24 l0 x6_1).f0, (rd_T24 l0 x6_1).f1⟩ : S24)); (case aB => exact (ba HB)); (case aF => exact (fun k_ hk => Kd.freshB (g := gb322) (o := .cells #[.string a1_0, .string a1_1] 24 (0, 0)) (bk BK322) k_ hk)); (case aO => exact (ra HO_5)); (case aS => exact (bz HB)); (case aL => have := LMc8.out; omega); intro v327 w11 ho hb hg hat; rw [← Ny326.out] at ho; have n0_ := Aside0.mk (blk_grown (g := gb322) (o := .cells #[.string a1_0, .string a1_1] 24 (0, 0)) (bk BK322) hg (Kd.R_away HO_5.out (fun _ hk => hk))); have n1_ := Aside0.mk (hb); have n2_ := Aside0.mk (ho); revert n0_ n1_ n2_; clear BK322 HB HO_5; intro BK322 HB HO328; clear ho hb hg hat))
       go_roundg k1
       case measure => have := HK1.out; omega
       case rel => exact ⟨(y326), (wrap64 (x6_1 + 1)), (by first | rfl | (simp; done) | (simp [*]; done)), H', ⟨by have := HK1.out; omega⟩, ⟨ra HO328⟩, ⟨by (with_reducible repeat (first | refine blk_drewN ?_ _ | refine blk_drew ?_ | refine blk_alloc ?_ _)); exact BK322.out⟩, ⟨ba HB⟩⟩
      ·rw [if_neg c8] at H
       exact absurd H (by simp)
     ·replace c7 := Bool.eq_false_iff.mpr c7
      subst c7
      replace H := jf H
      have H' := Aside0.mk H
      clear H
      try go_wp2
      have n0_ := Aside0.mk (Kd.R_drew HO_5.out)
      have n1_ := Aside0.mk (blk_drew BK322.out)
      have n2_ := Aside0.mk (below_drew1 HB.out)
      revert n0_ n1_ n2_
      clear HO_5 BK322 HB
      intro HO_5 BK322 HB
      have p323 : 0 ≤ (x6_1 : Int) := of_decide_eq_true (by first | (with_reducible assumption) | assumption)
      have q323 : x6_1 < (l0.length : Int) := of_decide_eq_true (by first | (with_reducible assumption) | assumption)
      obtain ⟨ad323, e323, hx323_0, hx323_1⟩ := at_T24 HR0.out x6_1 p323 q323
      have hw323_1 := hx323_1
      have hw323_0 := hx323_0
      cases e323
      replace hx323_0 := (HB.out.cell (World.block_lt_of_cell? w _ hx323_0)).trans hx323_0
      replace hx323_1 := (HB.out.cell (World.block_lt_of_cell? w _ hx323_1)).trans hx323_1
      replace p323 := eq_true p323
      replace q323 := eq_true q323
      refine start_ (n := 6) (S := fun w' => w'.cell? ⟨gb322, 0, none⟩ = some (.string a1_0) ∧ w'.cell? ⟨gb322, 1, none⟩ = some (.string a1_1) ∧ w'.cell? (ad323.add ((x6_1).toNat * 2)) = some (.string ((rd_T24 l0 x6_1).f0)) ∧ w'.cell? ⟨(ad323.add ((x6_1).toNat * 2)).block, (ad323.add ((x6_1).toNat * 2)).off + 1, none⟩ = some (.string ((rd_T24 l0 x6_1).f1))) (ds := []) #[false, false, false, false, false, false] (by kernel_rfl) rfl rfl ⟨bc BK322 0, bc BK322 1, ((HB.out.cell (World.block_lt_of_cell? w _ hw323_0)).trans hw323_0), ((HB.out.cell (World.block_lt_of_cell? w _ hw323_1)).trans hw323_1)⟩ (fun hHeld => ?_)
      generalize wr.drew = w12 at HO_5 BK322 HB hx323_0 hx323_1 hHeld ⊢
      refine pu 0 14 ?_
      refine pu 1 15 ?_
      refine pu 2 16 ?_
      refine tk 3 17 ?_
      refine tk 4 18 ?_
      refine oq 5 (some 19) fun K hK => ?_
      refine gs Tryz.func28 #[.agg #[.string ((rd_T24 l0 x6_1).f0), .string ((rd_T24 l0 x6_1).f1)], .agg #[.string a1_0, .string a1_1]] ?_
      with_reducible refine (r05_Less.calls k1 ((rd_T24 l0 x6_1).f0) ((rd_T24 l0 x6_1).f1) a1_0 a1_1 false _ A6.out).mono ?_
      rintro e w13 ⟨rfl, hb⟩
      refine ⟨_, rfl, ?_⟩
      have n0_ := rb HO_5 hb
      have n1_ := bb BK322 hb
      have n2_ := bs HB hb
      revert n0_ n1_ n2_
      clear HO_5 BK322 HB
      intro HO_5 BK322 HB
      try clear hb
      refine hK.out _ _ ⟨bc BK322 0, bc BK322 1, ((HB.out.cell (World.block_lt_of_cell? w _ hw323_0)).trans hw323_0), ((HB.out.cell (World.block_lt_of_cell? w _ hw323_1)).trans hw323_1)⟩ (fun hHeld => ?_)
      clear hK K
      refine nm ?_
      refine dq ?_
      try go_wp2
      go_roundg k1
      case measure => have := HK1.out; omega
      case rel => exact ⟨(x5_1), (wrap64 (x6_1 + 1)), (by first | rfl | (simp; done) | (simp [*]; done)), H', ⟨by have := HK1.out; omega⟩, ⟨ra HO_5⟩, ⟨by (with_reducible repeat (first | refine blk_drewN ?_ _ | refine blk_drew ?_ | refine blk_alloc ?_ _)); exact BK322.out⟩, ⟨ba HB⟩⟩
    ·rw [if_neg c5] at H
     exact absurd H (by simp)
   ·rw [if_neg c4] at H
    have c4b0 : decide (x6_1 < (l0.length : Int)) = false := decide_eq_false c4
    clear c4
    by_cases c14 : x5_1.length < 4398046511104
    ·rw [if_pos c14] at H
     have LMc14 := Aside0.mk c14
     clear c14
     obtain ⟨y329, hy329⟩ : ∃ y_ : List (S24), y_ = (x5_1 ++ [(⟨a1_0, a1_1⟩ : S24)]) := ⟨_, rfl⟩
     replace H : (r05_With.l1 k1 l0 y329 0 a1_0 a1_1) = some r := by first | (rw [hy329]; with_reducible exact H) | (have H2_ := (Option.bind_some _ _).symm.trans H; rw [hy329]; with_reducible exact H2_) | (have H2_ := (Option.bind_some _ _).symm.trans H; with_reducible exact H2_) | with_reducible exact H | (rw [hy329]; exact H) | exact H
     have Ny329 := Aside0.mk hy329
     clear hy329
     have H' := Aside0.mk H
     clear H
     have hcz15_0 := bc BK322 0
     have hcz15_1 := bc BK322 1
     have hfz15_0 := bf BK322 0
     have hfz15_1 := bf BK322 1
     go_wp2_with (first | ((with_reducible refine gate_builtin (b := .append) (xs := #[.tmp 27, .tmp 29]) rfl ?_); at_builtin; refine Kd.R_append k24 (w0 := w) w.heap.size rfl (.tmp 27) (.tmp 29) 31 24 (.agg #[(.string ⟨#[]⟩), (.string ⟨#[]⟩)]) 32 rfl Tryz.underlying31 info24 rfl (by decide) (by omega) u5 x5_1 (⟨a1_0, a1_1⟩ : S24) [.string a1_0, .string a1_1] (fun k_ => k_ ≠ gb322) (fun _ => False) rfl rfl ?aP (fun _ hk => hk.elim) ?aF ?aO ?aB ?aS ?aL ?_; (case aP => exact k24_mkM _ _ _ (⟨a1_0, a1_1⟩ : S24)); (case aB => exact (ba HB)); (case aF => exact (fun k_ hk => Kd.freshB (g := gb322) (o := .cells #[.string a1_0, .string a1_1] 24 (0, 0)) (bk BK322) k_ hk)); (case aO => exact (ra HO_5)); (case aS => exact (bz HB)); (case aL => have := LMc14.out; omega); intro v330 w16 ho hb hg hat; rw [← Ny329.out] at ho; have n0_ := Aside0.mk (blk_grown (g := gb322) (o := .cells #[.string a1_0, .string a1_1] 24 (0, 0)) (bk BK322) hg (Kd.R_away HO_5.out (fun _ hk => hk))); have n1_ := Aside0.mk (hb); have n2_ := Aside0.mk (ho); revert n0_ n1_ n2_; clear BK322 HB HO_5; intro BK322 HB HO331; clear ho hb hg hat))
     go_loopg [5, 7] k1 (fun kq v5 v7 w' => ∃ (x5_2 : List (S24)) (x7_2 : Int), v7 = .int .i64 x7_2 ∧ Aside0 (r05_With.l1 kq l0 x5_2 x7_2 a1_0 a1_1 = some r) ∧ Aside0 (kq ≤ k1) ∧ Aside0 (Kd.R k24 24 w' w.heap.size (fun k_ => k_ ≠ gb322) v5 x5_2) ∧ Aside0 (w'.heap[gb322]? = some (.cells #[.string a1_0, .string a1_1] 24 (0, 0))) ∧ Aside0 (Below w.heap.size w w'))
     case atStart => exact ⟨(y329), (0), (by first | rfl | (simp; done) | (simp [*]; done)), H', ⟨Nat.le_refl _⟩, ⟨ra HO331⟩, ⟨by (with_reducible repeat (first | refine blk_drewN ?_ _ | refine blk_drew ?_ | refine blk_alloc ?_ _)); exact BK322.out⟩, ⟨ba HB⟩⟩
     case round =>
      clear H'
      try clear c1
      try clear c2
      try clear p2
      try clear p3
      try clear q3
      try clear hx3
      try clear c4
      try clear c4b0
      try clear c5
      try clear c5b0
      try clear p6
      try clear c7
      try clear c8
      try clear c14
      try clear hcz15_0
      try clear hcz15_1
      try clear hfz15_0
      try clear hfz15_1
      try clear hx323_0
      try clear hx323_1
      try clear hx325_0
      try clear hx325_1
      try clear p2
      try clear p323
      try clear p325
      try clear q323
      try clear q325
      obtain ⟨x5_2, x7_2, rfl, HA, HK2, HO_5, BK322, HB⟩ := hrel
      cases gk with
      | zero => exact absurd HA.out (by simp [r05_With.l1])
      | succ k2 =>
       have H := HA.out
       clear HA
       simp only [r05_With.l1] at H
       by_cases c17 : x7_2 < (l0.length : Int)
       ·rw [if_pos c17] at H
        have c17b0 : decide (x7_2 < (l0.length : Int)) = true := decide_eq_true c17
        clear c17
        by_cases c18 : 0 ≤ x7_2
        ·rw [if_pos c18] at H
         have c18b0 : decide (0 ≤ x7_2) = true := decide_eq_true c18
         clear c18
         obtain ⟨t333, A19, H⟩ := bo H
         by_cases c20 : t333 = true
         ·subst c20
          replace H := it H
          by_cases c21 : x5_2.length < 4398046511104
          ·rw [if_pos c21] at H
           have LMc21 := Aside0.mk c21
           clear c21
           obtain ⟨y335, hy335⟩ : ∃ y_ : List (S24), y_ = (x5_2 ++ [(⟨(rd_T24 l0 x7_2).f0, (rd_T24 l0 x7_2).f1⟩ : S24)]) := ⟨_, rfl⟩
           replace H : (r05_With.l1 k2 l0 y335 (wrap64 (x7_2 + 1)) a1_0 a1_1) = some r := by first | (rw [hy335]; with_reducible exact H) | (have H2_ := (Option.bind_some _ _).symm.trans H; rw [hy335]; with_reducible exact H2_) | (have H2_ := (Option.bind_some _ _).symm.trans H; with_reducible exact H2_) | with_reducible exact H | (rw [hy335]; exact H) | exact H
           have Ny335 := Aside0.mk hy335
           clear hy335
           have H' := Aside0.mk H
           clear H
           try go_wp2
           have n0_ := Aside0.mk (Kd.R_drew HO_5.out)
           have n1_ := Aside0.mk (blk_drew BK322.out)
           have n2_ := Aside0.mk (below_drew1 HB.out)
           revert n0_ n1_ n2_
           clear HO_5 BK322 HB
           intro HO_5 BK322 HB
           have p332 : 0 ≤ (x7_2 : Int) := of_decide_eq_true (by first | (with_reducible assumption) | assumption)
           have q332 : x7_2 < (l0.length : Int) := of_decide_eq_true (by first | (with_reducible assumption) | assumption)
           obtain ⟨ad332, e332, hx332_0, hx332_1⟩ := at_T24 HR0.out x7_2 p332 q332
           have hw332_1 := hx332_1
           have hw332_0 := hx332_0
           cases e332
           replace hx332_0 := (HB.out.cell (World.block_lt_of_cell? w _ hx332_0)).trans hx332_0
           replace hx332_1 := (HB.out.cell (World.block_lt_of_cell? w _ hx332_1)).trans hx332_1
           replace p332 := eq_true p332
           replace q332 := eq_true q332
           refine start_ (n := 6) (S := fun w' => w'.cell? ⟨gb322, 0, none⟩ = some (.string a1_0) ∧ w'.cell? ⟨gb322, 1, none⟩ = some (.string a1_1) ∧ w'.cell? (ad332.add ((x7_2).toNat * 2)) = some (.string ((rd_T24 l0 x7_2).f0)) ∧ w'.cell? ⟨(ad332.add ((x7_2).toNat * 2)).block, (ad332.add ((x7_2).toNat * 2)).off + 1, none⟩ = some (.string ((rd_T24 l0 x7_2).f1))) (ds := []) #[false, false, false, false, false, false] (by kernel_rfl) rfl rfl ⟨bc BK322 0, bc BK322 1, ((HB.out.cell (World.block_lt_of_cell? w _ hw332_0)).trans hw332_0), ((HB.out.cell (World.block_lt_of_cell? w _ hw332_1)).trans hw332_1)⟩ (fun hHeld => ?_)
           generalize wr.drew = w22 at HO_5 BK322 HB hx332_0 hx332_1 hHeld ⊢
           refine pu 1 38 ?_
           refine pu 2 39 ?_
           refine pu 3 40 ?_
           refine tk 0 37 ?_
           refine tk 4 41 ?_
           refine oq 5 (some 42) fun K hK => ?_
           refine gs Tryz.func28 #[.agg #[.string a1_0, .string a1_1], .agg #[.string ((rd_T24 l0 x7_2).f0), .string ((rd_T24 l0 x7_2).f1)]] ?_
           with_reducible refine (r05_Less.calls k2 a1_0 a1_1 ((rd_T24 l0 x7_2).f0) ((rd_T24 l0 x7_2).f1) true _ A19.out).mono ?_
           rintro e w23 ⟨rfl, hb⟩
           refine ⟨_, rfl, ?_⟩
           have n0_ := rb HO_5 hb
           have n1_ := bb BK322 hb
           have n2_ := bs HB hb
           revert n0_ n1_ n2_
           clear HO_5 BK322 HB
           intro HO_5 BK322 HB
           try clear hb
           refine hK.out _ _ ⟨bc BK322 0, bc BK322 1, ((HB.out.cell (World.block_lt_of_cell? w _ hw332_0)).trans hw332_0), ((HB.out.cell (World.block_lt_of_cell? w _ hw332_1)).trans hw332_1)⟩ (fun hHeld => ?_)
           clear hK K
           refine nm ?_
           refine dq ?_
           have p334 : 0 ≤ (x7_2 : Int) := of_decide_eq_true (by first | (with_reducible assumption) | assumption)
           have q334 : x7_2 < (l0.length : Int) := of_decide_eq_true (by first | (with_reducible assumption) | assumption)
           obtain ⟨ad334, e334, hx334_0, hx334_1⟩ := at_T24 HR0.out x7_2 p334 q334
           obtain rfl : ad332 = ad334 := (by injection e334)
           replace hx334_0 := (HB.out.cell (World.block_lt_of_cell? w _ hx334_0)).trans hx334_0
           replace hx334_1 := (HB.out.cell (World.block_lt_of_cell? w _ hx334_1)).trans hx334_1
           replace p334 := eq_true p334
           replace q334 := eq_true q334
           try go_wp2_with (first | ((with_reducible refine gate_builtin (b := .append) (xs := #[.tmp 43, .tmp 48]) rfl ?_); at_builtin; refine Kd.R_append k24 (w0 := w) w.heap.size rfl (.tmp 43) (.tmp 48) 31 24 (.agg #[(.string ⟨#[]⟩), (.string ⟨#[]⟩)]) 32 rfl Tryz.underlying31 info24 rfl (by decide) (by omega) u5 x5_2 (⟨(rd_T24 l0 x7_2).f0, (rd_T24 l0 x7_2).f1⟩ : S24) [.string ((rd_T24 l0 x7_2).f0), .string ((rd_T24 l0 x7_2).f1)] (fun k_ => k_ ≠ gb322) (fun _ => False) rfl rfl ?aP (fun _ hk => hk.elim) ?aF ?aO ?aB ?aS ?aL ?_; (case aP => exact k24_mkM _ _ _ (⟨(rd_T24 l0 x7_2).f0, (rd_T24 l0 x7_2).f1⟩ : S24)); (case aB => exact (ba HB)); (case aF => exact (fun k_ hk => Kd.freshB (g := gb322) (o := .cells #[.string a1_0, .string a1_1] 24 (0, 0)) (bk BK322) k_ hk)); (case aO => exact (ra HO_5)); (case aS => exact (bz HB)); (case aL => have := LMc21.out; omega); intro v336 w24 ho hb hg hat; rw [← Ny335.out] at ho; have n0_ := Aside0.mk (blk_grown (g := gb322) (o := .cells #[.string a1_0, .string a1_1] 24 (0, 0)) (bk BK322) hg (Kd.R_away HO_5.out (fun _ hk => hk))); have n1_ := Aside0.mk (hb); have n2_ := Aside0.mk (ho); revert n0_ n1_ n2_; clear BK322 HB HO_5; intro BK322 HB HO337; clear ho hb hg hat))
           go_roundg k2
           case measure => have := HK1.out; have := HK2.out; omega
           case rel => exact ⟨(y335), (wrap64 (x7_2 + 1)), (by first | rfl | (simp; done) | (simp [*]; done)), H', ⟨by have := HK1.out; have := HK2.out; omega⟩, ⟨ra HO337⟩, ⟨by (with_reducible repeat (first | refine blk_drewN ?_ _ | refine blk_drew ?_ | refine blk_alloc ?_ _)); exact BK322.out⟩, ⟨ba HB⟩⟩
          ·rw [if_neg c21] at H
           exact absurd H (by simp)
         ·replace c20 := Bool.eq_false_iff.mpr c20
          subst c20
          replace H := jf H
          have H' := Aside0.mk H
          clear H
          try go_wp2
          have n0_ := Aside0.mk (Kd.R_drew HO_5.out)
          have n1_ := Aside0.mk (blk_drew BK322.out)
          have n2_ := Aside0.mk (below_drew1 HB.out)
          revert n0_ n1_ n2_
          clear HO_5 BK322 HB
          intro HO_5 BK322 HB
          have p332 : 0 ≤ (x7_2 : Int) := of_decide_eq_true (by first | (with_reducible assumption) | assumption)
          have q332 : x7_2 < (l0.length : Int) := of_decide_eq_true (by first | (with_reducible assumption) | assumption)
          obtain ⟨ad332, e332, hx332_0, hx332_1⟩ := at_T24 HR0.out x7_2 p332 q332
          have hw332_1 := hx332_1
          have hw332_0 := hx332_0
          cases e332
          replace hx332_0 := (HB.out.cell (World.block_lt_of_cell? w _ hx332_0)).trans hx332_0
          replace hx332_1 := (HB.out.cell (World.block_lt_of_cell? w _ hx332_1)).trans hx332_1
          replace p332 := eq_true p332
          replace q332 := eq_true q332
          refine start_ (n := 6) (S := fun w' => w'.cell? ⟨gb322, 0, none⟩ = some (.string a1_0) ∧ w'.cell? ⟨gb322, 1, none⟩ = some (.string a1_1) ∧ w'.cell? (ad332.add ((x7_2).toNat * 2)) = some (.string ((rd_T24 l0 x7_2).f0)) ∧ w'.cell? ⟨(ad332.add ((x7_2).toNat * 2)).block, (ad332.add ((x7_2).toNat * 2)).off + 1, none⟩ = some (.string ((rd_T24 l0 x7_2).f1))) (ds := []) #[false, false, false, false, false, false] (by kernel_rfl) rfl rfl ⟨bc BK322 0, bc BK322 1, ((HB.out.cell (World.block_lt_of_cell? w _ hw332_0)).trans hw332_0), ((HB.out.cell (World.block_lt_of_cell? w _ hw332_1)).trans hw332_1)⟩ (fun hHeld => ?_)
          generalize wr.drew = w25 at HO_5 BK322 HB hx332_0 hx332_1 hHeld ⊢
          refine pu 1 38 ?_
          refine pu 2 39 ?_
          refine pu 3 40 ?_
          refine tk 0 37 ?_
          refine tk 4 41 ?_
          refine oq 5 (some 42) fun K hK => ?_
          refine gs Tryz.func28 #[.agg #[.string a1_0, .string a1_1], .agg #[.string ((rd_T24 l0 x7_2).f0), .string ((rd_T24 l0 x7_2).f1)]] ?_
          with_reducible refine (r05_Less.calls k2 a1_0 a1_1 ((rd_T24 l0 x7_2).f0) ((rd_T24 l0 x7_2).f1) false _ A19.out).mono ?_
          rintro e w26 ⟨rfl, hb⟩
          refine ⟨_, rfl, ?_⟩
          have n0_ := rb HO_5 hb
          have n1_ := bb BK322 hb
          have n2_ := bs HB hb
          revert n0_ n1_ n2_
          clear HO_5 BK322 HB
          intro HO_5 BK322 HB
          try clear hb
          refine hK.out _ _ ⟨bc BK322 0, bc BK322 1, ((HB.out.cell (World.block_lt_of_cell? w _ hw332_0)).trans hw332_0), ((HB.out.cell (World.block_lt_of_cell? w _ hw332_1)).trans hw332_1)⟩ (fun hHeld => ?_)
          clear hK K
          refine nm ?_
          refine dq ?_
          try go_wp2
          go_roundg k2
          case measure => have := HK1.out; have := HK2.out; omega
          case rel => exact ⟨(x5_2), (wrap64 (x7_2 + 1)), (by first | rfl | (simp; done) | (simp [*]; done)), H', ⟨by have := HK1.out; have := HK2.out; omega⟩, ⟨ra HO_5⟩, ⟨by (with_reducible repeat (first | refine blk_drewN ?_ _ | refine blk_drew ?_ | refine blk_alloc ?_ _)); exact BK322.out⟩, ⟨ba HB⟩⟩
        ·rw [if_neg c18] at H
         exact absurd H (by simp)
       ·rw [if_neg c17] at H
        have c17b0 : decide (x7_2 < (l0.length : Int)) = false := decide_eq_false c17
        clear c17
        obtain rfl := Option.some.inj H
        go_wp2
        go_ret
        exact ⟨_, by first | rfl | (simp [errW_none, errW_some] <;> rfl) | (simp [*, errW_none, errW_some] <;> rfl), by (with_reducible repeat (first | apply Kd.R_alloc | apply Kd.R_drewN | apply Kd.R_drew)); exact Kd.R_mono HO_5.out (fun _ hk => trivial), ba HB⟩
    ·rw [if_neg c14] at H
     exact absurd H (by simp)
end Go.Proofs.YtjfcmkddeglghaaGreatDoor.G
end
section
namespace Go.Proofs.YtjfcmkddeglghaaGreatDoor.G
open Go.RowKit Go.Proofs.YtjfcmkddeglghaaGreatDoorW.PrintWords Go.Proofs.YtjfcmkddeglghaaGreatDoorW.PrintLast Go.Proofs.YtjfcmkddeglghaaGreatDoorW.PrintMore
attribute [local go_sem] max2_int min2_int max_two min_two max_three min_three max_four min_four
set_option linter.unusedVariables false
set_option linter.unusedSimpArgs false
def r05_Set.l0 : Nat → List (S24) → List (S24) → Int → Option ((List (S24)))
 | 0, _, _, _ => none
 | k + 1, x0, x3, x4 => if x4 < (x0.length : Int) then (if 0 ≤ x4 then ((r05_With.f k x3 ((rd_T24 x0 x4).f0) ((rd_T24 x0 x4).f1)).bind fun t339 => (r05_Set.l0 k x0 t339 (wrap64 (x4 + 1)))) else (none)) else (some x3)
def r05_Set.f (k : Nat) (l0 : List (S24)) : Option ((List (S24))) := r05_Set.l0 k l0 ([] : List (S24)) 0
theorem r05_Set.mono_l : ∀ k, (∀ y0 y1 y2, LeO (r05_Set.l0 k y0 y1 y2) (r05_Set.l0 (k + 1) y0 y1 y2))
 | 0 => fun _ _ _ r h => by simp [r05_Set.l0] at h
 | k + 1 => by
  have ih0 := r05_Set.mono_l k
  ·intro y0 y1 y2
   unfold r05_Set.l0
   repeat' first
   | (with_reducible exact ih0 _ _ _)
   | (with_reducible exact r05_With.mono _ _ _ _)
   | (with_reducible exact LeO.refl _)
   | (with_reducible exact LeO.none _)
   | (with_reducible refine LeO.ite ?_ ?_)
   | (with_reducible refine LeO.bind ?_ (fun _ => ?_))
   | exact ih0 _ _ _
   | exact r05_With.mono _ _ _ _
   | exact LeO.none _
   | refine LeO.ite ?_ ?_
   | refine LeO.bind ?_ (fun _ => ?_)
theorem r05_Set.mono : ∀ a0 k, LeO (r05_Set.f k a0) (r05_Set.f (k + 1) a0) := by
 intro a0 k
 have ih0 := r05_Set.mono_l k
 unfold r05_Set.f
 repeat' first
   | (with_reducible exact ih0 _ _ _)
   | (with_reducible exact r05_With.mono _ _ _ _)
   | (with_reducible exact LeO.refl _)
   | (with_reducible exact LeO.none _)
   | (with_reducible refine LeO.ite ?_ ?_)
   | (with_reducible refine LeO.bind ?_ (fun _ => ?_))
   | exact ih0 _ _ _
   | exact r05_With.mono _ _ _ _
   | exact LeO.none _
   | refine LeO.ite ?_ ?_
   | refine LeO.bind ?_ (fun _ => ?_)
set_option maxHeartbeats 8000000 in
set_option maxRecDepth 100000 in
theorem r05_Set.calls (k : Nat) (A0 : Option Addr) (c0 : Nat) (l0 : List (S24)) (r : List (S24)) (w : World) (hr0 : Kd.C k24 w A0 l0.length l0) (hc0 : l0.length ≤ c0) (h : r05_Set.f k l0 = some r) :
  Calls Tryz.prog 49 #[.slice A0 l0.length c0] w fun e w' => ∃ v0_ : Value, e = .returned (v0_) ∧ Kd.R k24 24 w' w.heap.size (fun _ => True) v0_ r ∧ Below w.heap.size w w' := by
 have hu24 := Tryz.underlying24
 have HR0 := Aside0.mk hr0
 have HC0 := Aside0.mk hc0
 clear hr0 hc0
 have HB := Aside0.mk (Below.refl w.heap.size w)
 have H : (r05_Set.l0 k l0 ([] : List (S24)) 0) = some r := h
 clear h
 have H' := Aside0.mk H
 clear H
 go_enter Tryz.func49, Tryz.ntmps49
 go_wp2
 go_loopg [3, 4] k (fun kq v3 v4 w' => ∃ (x3_1 : List (S24)) (x4_1 : Int), v4 = .int .i64 x4_1 ∧ Aside0 (r05_Set.l0 kq l0 x3_1 x4_1 = some r) ∧ Aside0 (kq ≤ k) ∧ Aside0 (Kd.R k24 24 w' w.heap.size (fun _ => True) v3 x3_1) ∧ Aside0 (Below w.heap.size w w'))
 case atStart => exact ⟨(([] : List (S24))), (0), (by first | rfl | (simp; done) | (simp [*]; done)), H', ⟨Nat.le_refl _⟩, ⟨by first | exact Kd.R_nil _ _ _ _ _ | exact Kd.N_nil _ _ _ _ _ | exact Kd.V_nil _ _ _ _ _ | exact Kd.Q_nil _ _ _ _ _ | exact Kd.S_nil _ _ _ _ _⟩, ⟨ba HB⟩⟩
 case round =>
  clear H'
  obtain ⟨x3_1, x4_1, rfl, HA, HK1, HO_3, HB⟩ := hrel
  cases gk with
  | zero => exact absurd HA.out (by simp [r05_Set.l0])
  | succ k1 =>
   have H := HA.out
   clear HA
   simp only [r05_Set.l0] at H
   by_cases c2 : x4_1 < (l0.length : Int)
   ·rw [if_pos c2] at H
    have c2b0 : decide (x4_1 < (l0.length : Int)) = true := decide_eq_true c2
    clear c2
    by_cases c3 : 0 ≤ x4_1
    ·rw [if_pos c3] at H
     have c3b0 : decide (0 ≤ x4_1) = true := decide_eq_true c3
     clear c3
     obtain ⟨t339, A4, H⟩ := bo H
     have H' := Aside0.mk H
     clear H
     have p338 : 0 ≤ (x4_1 : Int) := of_decide_eq_true (by first | (with_reducible assumption) | assumption)
     have q338 : x4_1 < (l0.length : Int) := of_decide_eq_true (by first | (with_reducible assumption) | assumption)
     obtain ⟨ad338, e338, hx338_0, hx338_1⟩ := at_T24 HR0.out x4_1 p338 q338
     cases e338
     replace hx338_0 := (HB.out.cell (World.block_lt_of_cell? w _ hx338_0)).trans hx338_0
     replace hx338_1 := (HB.out.cell (World.block_lt_of_cell? w _ hx338_1)).trans hx338_1
     replace p338 := eq_true p338
     replace q338 := eq_true q338
     obtain ⟨Ao5, co5, eo5⟩ := Kd.R_slice HO_3.out
     subst eo5
     go_wp2_with (first | ((with_reducible refine gate_callee (f := 80) rfl ?_); refine gl 16 Tryz.func80 #[.slice Ao5 x3_1.length co5, .agg #[.string ((rd_T24 l0 x4_1).f0), .string ((rd_T24 l0 x4_1).f1)]] ?_; (with_reducible refine (r05_With.calls k1 _ _ x3_1 ((rd_T24 l0 x4_1).f0) ((rd_T24 l0 x4_1).f1) t339 _ ?side1 ?side2 A4.out).mono ?_); (case side1 => repeat (first | exact (Kd.R_reads' HO_3.out).2.2 | (with_reducible refine Kd.C_alloc ?_ _) | (with_reducible refine Kd.C_drewN ?_ _) | (with_reducible refine Kd.C_drew ?_))); (case side2 => exact (Kd.R_reads' HO_3.out).2.1); rintro e w6 ⟨v340, rfl, ho0, hb⟩; refine ⟨_, rfl, ?_⟩; have n0_ := Aside0.mk (Kd.R_elder' (ra HO_3) (Kd.R_base ho0) hb); have n1_ := Aside0.mk (Kd.R_lower (Kd.R_new' ho0 (Kd.R_lt (ra HO_3))) (bz HB)); have n2_ := bs HB hb; revert n0_ n1_ n2_; clear HO_3 HB; intro HO_3 HO341 HB; (try clear hb); (try clear ho0)))
     go_roundg k1
     case measure => have := HK1.out; omega
     case rel => exact ⟨(t339), (wrap64 (x4_1 + 1)), (by first | rfl | (simp; done) | (simp [*]; done)), H', ⟨by have := HK1.out; omega⟩, ⟨by (with_reducible repeat (first | apply Kd.R_alloc | apply Kd.R_drewN | apply Kd.R_drew)); exact Kd.R_mono HO341.out (fun _ hk => trivial)⟩, ⟨ba HB⟩⟩
    ·rw [if_neg c3] at H
     exact absurd H (by simp)
   ·rw [if_neg c2] at H
    have c2b0 : decide (x4_1 < (l0.length : Int)) = false := decide_eq_false c2
    clear c2
    obtain rfl := Option.some.inj H
    go_wp2
    go_ret
    exact ⟨_, by first | rfl | (simp [errW_none, errW_some] <;> rfl) | (simp [*, errW_none, errW_some] <;> rfl), by (with_reducible repeat (first | apply Kd.R_alloc | apply Kd.R_drewN | apply Kd.R_drew)); exact HO_3.out, ba HB⟩
end Go.Proofs.YtjfcmkddeglghaaGreatDoor.G
end
section
namespace Go.Proofs.YtjfcmkddeglghaaGreatDoor.G
open Go.RowKit Go.Proofs.YtjfcmkddeglghaaGreatDoorW.PrintWords Go.Proofs.YtjfcmkddeglghaaGreatDoorW.PrintLast Go.Proofs.YtjfcmkddeglghaaGreatDoorW.PrintMore
attribute [local go_sem] max2_int min2_int max_two min_two max_three min_three max_four min_four
set_option linter.unusedVariables false
set_option linter.unusedSimpArgs false
attribute [local go_sem high] eqA24
def r05_Same.l0 : Nat → List (S24) → List (S24) → Int → Option (Bool)
 | 0, _, _, _ => none
 | k + 1, x0, x1, x5 => if x5 < (x0.length : Int) then (if 0 ≤ x5 then (if x5 < (x1.length : Int) then (if (!((((rd_T24 x0 x5).f0).toList) == (((rd_T24 x1 x5).f0).toList)) || (!((((rd_T24 x0 x5).f1).toList) == (((rd_T24 x1 x5).f1).toList)))) = true then (some false) else (r05_Same.l0 k x0 x1 (wrap64 (x5 + 1)))) else (none)) else (none)) else (some true)
def r05_Same.f (k : Nat) (l0 : List (S24)) (l1 : List (S24)) : Option (Bool) := if (l0.length : Int) = (l1.length : Int) then (r05_Same.l0 k l0 l1 0) else (some false)
theorem r05_Same.mono_l : ∀ k, (∀ y0 y1 y2, LeO (r05_Same.l0 k y0 y1 y2) (r05_Same.l0 (k + 1) y0 y1 y2))
 | 0 => fun _ _ _ r h => by simp [r05_Same.l0] at h
 | k + 1 => by
  have ih0 := r05_Same.mono_l k
  ·intro y0 y1 y2
   unfold r05_Same.l0
   repeat' first
   | (with_reducible exact ih0 _ _ _)
   | (with_reducible exact LeO.refl _)
   | (with_reducible exact LeO.none _)
   | (with_reducible refine LeO.ite ?_ ?_)
   | (with_reducible refine LeO.bind ?_ (fun _ => ?_))
   | exact ih0 _ _ _
   | exact LeO.none _
   | refine LeO.ite ?_ ?_
   | refine LeO.bind ?_ (fun _ => ?_)
theorem r05_Same.mono : ∀ a0 a1 k, LeO (r05_Same.f k a0 a1) (r05_Same.f (k + 1) a0 a1) := by
 intro a0 a1 k
 have ih0 := r05_Same.mono_l k
 unfold r05_Same.f
 repeat' first
   | (with_reducible exact ih0 _ _ _)
   | (with_reducible exact LeO.refl _)
   | (with_reducible exact LeO.none _)
   | (with_reducible refine LeO.ite ?_ ?_)
   | (with_reducible refine LeO.bind ?_ (fun _ => ?_))
   | exact ih0 _ _ _
   | exact LeO.none _
   | refine LeO.ite ?_ ?_
   | refine LeO.bind ?_ (fun _ => ?_)
set_option maxHeartbeats 8000000 in
set_option maxRecDepth 100000 in
theorem r05_Same.calls (k : Nat) (A0 : Option Addr) (c0 : Nat) (l0 : List (S24)) (A1 : Option Addr) (c1 : Nat) (l1 : List (S24)) (r : Bool) (w : World) (hr0 : Kd.C k24 w A0 l0.length l0) (hc0 : l0.length ≤ c0) (hr1 : Kd.C k24 w A1 l1.length l1) (hc1 : l1.length ≤ c1) (h : r05_Same.f k l0 l1 = some r) :
  Calls Tryz.prog 26 #[.slice A0 l0.length c0, .slice A1 l1.length c1] w fun e w' => e = .returned (.bool r) ∧ Drawn0 w w' := by
 have hu24 := Tryz.underlying24
 have HR0 := Aside0.mk hr0
 have HC0 := Aside0.mk hc0
 clear hr0 hc0
 have HR1 := Aside0.mk hr1
 have HC1 := Aside0.mk hc1
 clear hr1 hc1
 have H : (if (l0.length : Int) = (l1.length : Int) then (r05_Same.l0 k l0 l1 0) else (some false)) = some r := h
 clear h
 by_cases c3 : (l0.length : Int) = (l1.length : Int)
 ·rw [if_pos c3] at H
  have c3b0 := beq_iff_eq.mpr c3
  have c3b1 := bne_eq_false_iff_eq.mpr c3
  have c3b2 : (l0.length == l1.length) = true := by first | simpa using c3 | (simp at c3 ⊢; omega)
  clear c3
  have H' := Aside0.mk H
  clear H
  go_enter Tryz.func26, Tryz.ntmps26
  go_wp2
  repeat (go_quiet (fail); try go_wp2)
  go_loopg [5] k (fun kq v5 w' => ∃ (x5_1 : Int), v5 = .int .i64 x5_1 ∧ Aside0 (r05_Same.l0 kq l0 l1 x5_1 = some r) ∧ Aside0 (kq ≤ k) ∧ Drawn0 w w')
  case atStart => exact ⟨(0), (by first | rfl | (simp; done) | (simp [*]; done)), H', ⟨Nat.le_refl _⟩, by repeat (first | exact Drawn0.refl _ | apply Drawn0.step)⟩
  case round =>
   clear H'
   try clear c1
   try clear c2
   try clear p2
   try clear c3
   try clear c3b0
   try clear c3b1
   try clear c3b2
   obtain ⟨x5_1, rfl, HA, HK1, ⟨m1, rfl⟩⟩ := hrel
   cases gk with
   | zero => exact absurd HA.out (by simp [r05_Same.l0])
   | succ k1 =>
    have H := HA.out
    clear HA
    simp only [r05_Same.l0] at H
    by_cases c4 : x5_1 < (l0.length : Int)
    ·rw [if_pos c4] at H
     have c4b0 : decide (x5_1 < (l0.length : Int)) = true := decide_eq_true c4
     clear c4
     by_cases c5 : 0 ≤ x5_1
     ·rw [if_pos c5] at H
      have c5b0 : decide (0 ≤ x5_1) = true := decide_eq_true c5
      clear c5
      by_cases c6 : x5_1 < (l1.length : Int)
      ·rw [if_pos c6] at H
       have c6b0 : decide (x5_1 < (l1.length : Int)) = true := decide_eq_true c6
       clear c6
       by_cases c7 : (!((((rd_T24 l0 x5_1).f0).toList) == (((rd_T24 l1 x5_1).f0).toList)) || (!((((rd_T24 l0 x5_1).f1).toList) == (((rd_T24 l1 x5_1).f1).toList)))) = true
       ·rw [if_pos c7] at H
        have c7b0 : (!((((rd_T24 l0 x5_1).f0).toList) == (((rd_T24 l1 x5_1).f0).toList)) || (!((((rd_T24 l0 x5_1).f1).toList) == (((rd_T24 l1 x5_1).f1).toList)))) = true := c7
        clear c7
        obtain rfl := Option.some.inj H
        have p358 : 0 ≤ (x5_1 : Int) := of_decide_eq_true (by first | (with_reducible assumption) | assumption)
        have q358 : x5_1 < (l0.length : Int) := of_decide_eq_true (by first | (with_reducible assumption) | assumption)
        obtain ⟨ad358, e358, hx358_0, hx358_1⟩ := at_T24 HR0.out x5_1 p358 q358
        cases e358
        replace p358 := eq_true p358
        replace q358 := eq_true q358
        have p359 : 0 ≤ (x5_1 : Int) := of_decide_eq_true (by first | (with_reducible assumption) | assumption)
        have q359 : x5_1 < (l1.length : Int) := of_decide_eq_true (by first | (with_reducible assumption) | assumption)
        obtain ⟨ad359, e359, hx359_0, hx359_1⟩ := at_T24 HR1.out x5_1 p359 q359
        cases e359
        replace p359 := eq_true p359
        replace q359 := eq_true q359
        go_wp2
        repeat (go_quiet (fail); try go_wp2)
        go_ret
        exact ⟨by first | rfl | (simp; done) | (simp [*]; done), by repeat (first | exact Drawn0.refl _ | apply Drawn0.step)⟩
       ·rw [if_neg c7] at H
        have c7b0 : (!((((rd_T24 l0 x5_1).f0).toList) == (((rd_T24 l1 x5_1).f0).toList)) || (!((((rd_T24 l0 x5_1).f1).toList) == (((rd_T24 l1 x5_1).f1).toList)))) = false := by simpa using c7
        clear c7
        have H' := Aside0.mk H
        clear H
        have p358 : 0 ≤ (x5_1 : Int) := of_decide_eq_true (by first | (with_reducible assumption) | assumption)
        have q358 : x5_1 < (l0.length : Int) := of_decide_eq_true (by first | (with_reducible assumption) | assumption)
        obtain ⟨ad358, e358, hx358_0, hx358_1⟩ := at_T24 HR0.out x5_1 p358 q358
        cases e358
        replace p358 := eq_true p358
        replace q358 := eq_true q358
        have p359 : 0 ≤ (x5_1 : Int) := of_decide_eq_true (by first | (with_reducible assumption) | assumption)
        have q359 : x5_1 < (l1.length : Int) := of_decide_eq_true (by first | (with_reducible assumption) | assumption)
        obtain ⟨ad359, e359, hx359_0, hx359_1⟩ := at_T24 HR1.out x5_1 p359 q359
        cases e359
        replace p359 := eq_true p359
        replace q359 := eq_true q359
        go_wp2
        repeat (go_quiet (fail); try go_wp2)
        go_roundg k1
        case measure => have := HK1.out; omega
        case rel => exact ⟨(wrap64 (x5_1 + 1)), (by first | rfl | (simp; done) | (simp [*]; done)), H', ⟨by have := HK1.out; omega⟩, by repeat (first | exact Drawn0.refl _ | apply Drawn0.step)⟩
      ·rw [if_neg c6] at H
       exact absurd H (by simp)
     ·rw [if_neg c5] at H
      exact absurd H (by simp)
    ·rw [if_neg c4] at H
     have c4b0 : decide (x5_1 < (l0.length : Int)) = false := decide_eq_false c4
     clear c4
     obtain rfl := Option.some.inj H
     go_wp2
     repeat (go_quiet (fail); try go_wp2)
     go_ret
     exact ⟨by first | rfl | (simp; done) | (simp [*]; done), by repeat (first | exact Drawn0.refl _ | apply Drawn0.step)⟩
 ·rw [if_neg c3] at H
  have c3b0 := beq_eq_false_iff_ne.mpr c3
  have c3b1 := bne_iff_ne.mpr c3
  have c3b2 : (l0.length == l1.length) = false := by first | simpa using c3 | (simp at c3 ⊢; omega)
  obtain rfl := Option.some.inj H
  go_enter Tryz.func26, Tryz.ntmps26
  go_wp2
  repeat (go_quiet (fail); try go_wp2)
  go_ret
  exact ⟨by first | rfl | (simp; done) | (simp [*]; done), by repeat (first | exact Drawn0.refl _ | apply Drawn0.step)⟩
end Go.Proofs.YtjfcmkddeglghaaGreatDoor.G
end
section
set_option linter.unusedVariables false
set_option linter.unusedSimpArgs false
namespace Gw
structure TotalOn {α : Type} (p : α → Prop) (c : α → α → Int) : Prop where
  self : ∀ a, c a a = 0
  anti : ∀ a b, c b a = - c a b
  eq0 : ∀ a b, p a → p b → c a b = 0 → a = b
  trans : ∀ a b d, p a → p b → p d → c a b < 0 → c b d < 0 → c a d < 0
def Any {α : Type} (_ : α) : Prop := True
def or3 (x y : Int) : Int := if x = 0 then y else x
theorem or3_neg {x y : Int} : or3 x y < 0 ↔ x < 0 ∨ x = 0 ∧ y < 0 := by
  unfold or3; split <;> omega
theorem or3_zero {x y : Int} : or3 x y = 0 ↔ x = 0 ∧ y = 0 := by
  unfold or3; split <;> omega
theorem or3_anti (x y : Int) : or3 (-x) (-y) = - or3 x y := by
  unfold or3; split <;> split <;> omega
theorem TotalOn.lex {α β γ : Type} {p : γ → Prop} {pa : α → Prop} {pb : β → Prop} {ca : α → α → Int} {cb : β → β → Int} (ha : TotalOn pa ca) (hb : TotalOn pb cb) (f : γ → α) (g : γ → β)
    (hf : ∀ x, p x → pa (f x)) (hg : ∀ x, p x → pb (g x)) (inj : ∀ x y, p x → p y → f x = f y → g x = g y → x = y) : TotalOn p fun x y => or3 (ca (f x) (f y)) (cb (g x) (g y)) where
  self a := by simp [or3, ha.self, hb.self]
  anti a b := by rw [ha.anti (f a), hb.anti (g a), or3_anti]
  eq0 a b pa' pb' h := by
    obtain ⟨h1, h2⟩ := or3_zero.1 h
    exact inj a b pa' pb' (ha.eq0 _ _ (hf _ pa') (hf _ pb') h1) (hb.eq0 _ _ (hg _ pa') (hg _ pb') h2)
  trans a b d p1 p2 p3 h1 h2 := by
    rw [or3_neg] at *
    rcases h1 with h1 | ⟨h1, k1⟩ <;> rcases h2 with h2 | ⟨h2, k2⟩
    · exact .inl (ha.trans _ _ _ (hf _ p1) (hf _ p2) (hf _ p3) h1 h2)
    · have := ha.eq0 _ _ (hf _ p2) (hf _ p3) h2
      rw [← this]; exact .inl h1
    · have := ha.eq0 _ _ (hf _ p1) (hf _ p2) h1
      rw [this]; exact .inl h2
    · have e1 := ha.eq0 _ _ (hf _ p1) (hf _ p2) h1
      exact .inr ⟨by rw [e1, h2], hb.trans _ _ _ (hg _ p1) (hg _ p2) (hg _ p3) k1 k2⟩
theorem TotalOn.comap {α γ : Type} {p : γ → Prop} {pa : α → Prop} {ca : α → α → Int} (ha : TotalOn pa ca) (f : γ → α) (hf : ∀ x, p x → pa (f x)) (inj : ∀ x y, p x → p y → f x = f y → x = y) : TotalOn p fun x y => ca (f x) (f y) where
  self a := ha.self _
  anti a b := ha.anti _ _
  eq0 a b p1 p2 h := inj a b p1 p2 (ha.eq0 _ _ (hf _ p1) (hf _ p2) h)
  trans a b d p1 p2 p3 := ha.trans _ _ _ (hf _ p1) (hf _ p2) (hf _ p3)
def cmpN (a b : Nat) : Int := if a < b then -1 else if b < a then 1 else 0
theorem cmpN_total : TotalOn Any cmpN where
  self a := by simp [cmpN]
  anti a b := by unfold cmpN; split <;> split <;> omega
  eq0 a b _ _ h := by unfold cmpN at h; split at h <;> (try split at h) <;> omega
  trans a b d _ _ _ h1 h2 := by
    have : a < b := by unfold cmpN at h1; split at h1 <;> (try split at h1) <;> omega
    have : b < d := by unfold cmpN at h2; split at h2 <;> (try split at h2) <;> omega
    unfold cmpN; rw [if_pos (by omega)]; omega
def cmpLs {α : Type} (c : α → α → Int) : List α → List α → Int
  | [], [] => 0
  | [], _ :: _ => -1
  | _ :: _, [] => 1
  | a :: s, b :: t => or3 (c a b) (cmpLs c s t)
theorem cmpLs_total {α : Type} {c : α → α → Int} {p : α → Prop} (h : TotalOn p c) : TotalOn (fun l => ∀ x ∈ l, p x) (cmpLs c) where
  self a := by
    induction a with
    | nil => rfl
    | cons x s ih => simp [cmpLs, or3, h.self, ih]
  anti a := by
    induction a with
    | nil => intro b; cases b <;> simp [cmpLs]
    | cons x s ih =>
      intro b
      cases b with
      | nil => simp [cmpLs]
      | cons y t => simp only [cmpLs]; rw [h.anti x, ih, or3_anti]
  eq0 a := by
    induction a with
    | nil => intro b _ _ h; cases b <;> simp [cmpLs] at h ⊢
    | cons x s ih =>
      intro b ha hb e
      cases b with
      | nil => simp [cmpLs] at e
      | cons y t =>
        simp only [cmpLs] at e
        obtain ⟨e1, e2⟩ := or3_zero.1 e
        have := h.eq0 x y (ha _ (by simp)) (hb _ (by simp)) e1
        have := ih t (fun z hz => ha _ (by simp [hz])) (fun z hz => hb _ (by simp [hz])) e2
        subst_vars; rfl
  trans a := by
    induction a with
    | nil => intro b d _ _ _ h1 h2; cases b <;> cases d <;> simp [cmpLs] at *
    | cons x s ih =>
      intro b d ha hb hd h1 h2
      cases b with
      | nil => simp [cmpLs] at h1
      | cons y t =>
        cases d with
        | nil => simp [cmpLs] at h2
        | cons z u =>
          simp only [cmpLs] at *
          have px := ha x (by simp)
          have py := hb y (by simp)
          have pz := hd z (by simp)
          have hs : ∀ w ∈ s, p w := fun w hw => ha _ (by simp [hw])
          have ht : ∀ w ∈ t, p w := fun w hw => hb _ (by simp [hw])
          have hu : ∀ w ∈ u, p w := fun w hw => hd _ (by simp [hw])
          rw [or3_neg] at *
          rcases h1 with h1 | ⟨h1, k1⟩ <;> rcases h2 with h2 | ⟨h2, k2⟩
          · exact .inl (h.trans _ _ _ px py pz h1 h2)
          · have := h.eq0 _ _ py pz h2
            rw [← this]; exact .inl h1
          · have := h.eq0 _ _ px py h1
            rw [this]; exact .inl h2
          · have e1 := h.eq0 _ _ px py h1
            exact .inr ⟨by rw [e1, h2], ih t u hs ht hu k1 k2⟩
section
variable {α : Type} (c : α → α → Int)
def Sorted (l : List α) : Prop := l.Pairwise fun a b => c a b < 0
def withS (l : List α) (n : α) : List α := l.filter (fun x => decide (c x n < 0)) ++ n :: l.filter (fun x => decide (c n x < 0))
def setS (l : List α) : List α := l.foldl (withS c) []
variable {c} {p : α → Prop} (h : TotalOn p c)
include h
theorem TotalOn.lt_or (a b : α) (ha : p a) (hb : p b) : c a b < 0 ∨ a = b ∨ c b a < 0 := by
  have := h.anti a b
  rcases Int.lt_trichotomy (c a b) 0 with h1 | h1 | h1
  · exact .inl h1
  · exact .inr (.inl (h.eq0 a b ha hb h1))
  · exact .inr (.inr (by omega))
theorem TotalOn.irrefl (a : α) : ¬ c a a < 0 := by have := h.self a; omega
theorem TotalOn.asymm {a b : α} (h1 : c a b < 0) : ¬ c b a < 0 := by have := h.anti a b; omega
theorem mem_withS {l : List α} {n x : α} (hl : ∀ y ∈ l, p y) (hn : p n) : x ∈ withS c l n ↔ x ∈ l ∨ x = n := by
  simp only [withS, List.mem_append, List.mem_filter, List.mem_cons, decide_eq_true_eq]
  constructor
  · rintro (⟨h1, _⟩ | h1 | ⟨h1, _⟩)
    · exact .inl h1
    · exact .inr h1
    · exact .inl h1
  · rintro (h1 | h1)
    · rcases h.lt_or x n (hl _ h1) hn with h2 | h2 | h2
      · exact .inl ⟨h1, h2⟩
      · exact .inr (.inl h2)
      · exact .inr (.inr ⟨h1, h2⟩)
    · exact .inr (.inl h1)
theorem withS_all {l : List α} {n : α} (hl : ∀ y ∈ l, p y) (hn : p n) : ∀ y ∈ withS c l n, p y := by
  intro y hy
  rcases (mem_withS h hl hn).1 hy with h1 | rfl
  · exact hl _ h1
  · exact hn
theorem withS_sorted {l : List α} {n : α} (hl : ∀ y ∈ l, p y) (hn : p n) (hs : Sorted c l) : Sorted c (withS c l n) := by
  unfold Sorted withS at *
  rw [List.pairwise_append, List.pairwise_cons]
  refine ⟨hs.filter _, ⟨?_, hs.filter _⟩, ?_⟩
  · intro a ha; simpa using (List.mem_filter.1 ha).2
  · intro a ha b hb
    obtain ⟨ha1, ha2⟩ := List.mem_filter.1 ha
    simp only [decide_eq_true_eq] at ha2
    rcases List.mem_cons.1 hb with rfl | hb
    · exact ha2
    · obtain ⟨hb1, hb2⟩ := List.mem_filter.1 hb
      simp only [decide_eq_true_eq] at hb2
      exact h.trans _ _ _ (hl _ ha1) hn (hl _ hb1) ha2 hb2
theorem foldl_withS (l : List α) : ∀ acc : List α, (∀ y ∈ acc, p y) → (∀ y ∈ l, p y) → Sorted c acc →
    Sorted c (l.foldl (withS c) acc) ∧ (∀ y ∈ l.foldl (withS c) acc, p y) ∧ ∀ x, x ∈ l.foldl (withS c) acc ↔ x ∈ acc ∨ x ∈ l := by
  induction l with
  | nil => intro acc h1 _ h3; exact ⟨h3, h1, fun x => by simp⟩
  | cons n l ih =>
    intro acc h1 h2 h3
    have hn := h2 n (by simp)
    obtain ⟨a, b, d⟩ := ih (withS c acc n) (withS_all h h1 hn) (fun y hy => h2 _ (by simp [hy])) (withS_sorted h h1 hn h3)
    refine ⟨a, b, fun x => ?_⟩
    rw [List.foldl_cons, d, mem_withS h h1 hn, List.mem_cons, or_assoc]
theorem setS_sorted {l : List α} (hl : ∀ y ∈ l, p y) : Sorted c (setS c l) := (foldl_withS h l [] (by simp) hl List.Pairwise.nil).1
theorem mem_setS {l : List α} (hl : ∀ y ∈ l, p y) {x : α} : x ∈ setS c l ↔ x ∈ l := by
  have := (foldl_withS h l [] (by simp) hl List.Pairwise.nil).2.2 x
  simpa [setS] using this
theorem sorted_ext {l m : List α} (hl : Sorted c l) (hm : Sorted c m) (e : ∀ x, x ∈ l ↔ x ∈ m) : l = m := by
  induction l generalizing m with
  | nil =>
    cases m with
    | nil => rfl
    | cons a m => have := (e a).2 (by simp); simp at this
  | cons a l ih =>
    cases m with
    | nil => have := (e a).1 (by simp); simp at this
    | cons b m =>
      unfold Sorted at *
      rw [List.pairwise_cons] at hl hm
      have hab : a = b := by
        have h1 := (e a).1 (by simp)
        have h2 := (e b).2 (by simp)
        rcases List.mem_cons.1 h1 with h1 | h1
        · exact h1
        · rcases List.mem_cons.1 h2 with h2 | h2
          · exact h2.symm
          · exact absurd (hm.1 _ h1) (h.asymm (hl.1 _ h2))
      subst hab
      congr 1
      refine ih hl.2 hm.2 fun x => ?_
      have hx := e x
      constructor
      · intro h1
        rcases List.mem_cons.1 (hx.1 (by simp [h1])) with h2 | h2
        · subst h2; exact absurd (hl.1 _ h1) (h.irrefl _)
        · exact h2
      · intro h1
        rcases List.mem_cons.1 (hx.2 (by simp [h1])) with h2 | h2
        · subst h2; exact absurd (hm.1 _ h1) (h.irrefl _)
        · exact h2
theorem sorted_nodup {l : List α} (hl : Sorted c l) : l.Nodup := by
  unfold Sorted at hl
  exact hl.imp fun {a b} h1 e => by subst e; exact h.irrefl _ h1
end
end Gw
end
