/- Parts of the proof of WhyTells. -/
import Derived.ChangeArms
import Derived.Deep.Slices
import Derived.LaidOnce
import Derived.Lay
import Derived.OpenShut
import Derived.ProofKit
import Derived.SevenTiedAt
import Derived.Test.YtjfcmkddeglghaaGreatDoorCards
import Derived.Test.YtjfcmkddeglghaaGreatDoorRows
import Derived.Test.YtjfcmkddeglghaaGreatDoorTie
import Derived.WalkKit
import Derived.WideShapes
import Derived.Test.YtjfcmkddeglghaaGreatDoorKa1
import Derived.Test.YtjfcmkddeglghaaGreatDoorKa2
import Derived.Test.YtjfcmkddeglghaaGreatDoorKa3
import Derived.Test.YtjfcmkddeglghaaGreatDoorKa5
import Derived.Test.YtjfcmkddeglghaaGreatDoorKa6
import Derived.Test.YtjfcmkddeglghaaGreatDoorKa61
import Derived.Test.YtjfcmkddeglghaaGreatDoorKa62
import Derived.Test.YtjfcmkddeglghaaGreatDoorKa7
section
namespace Go.Proofs.YtjfcmkddeglghaaGreatDoor.G
open Go.RowKit Go.Proofs.YtjfcmkddeglghaaGreatDoorW.PrintWords Go.Proofs.YtjfcmkddeglghaaGreatDoorW.PrintLast Go.Proofs.YtjfcmkddeglghaaGreatDoorW.PrintMore
attribute [local go_sem] max2_int min2_int max_two min_two max_three min_three max_four min_four
set_option linter.unusedVariables false
set_option linter.unusedSimpArgs false
def w19_WhyTells.j0 : Nat → List (S49) → List (S24) → Int → Bool → ByteArray → ByteArray → Option (Bool)
 | 0, _, _, _, _, _, _ => none
 | k + 1, x0, x7, x8, x55, x383000, x383001 => if x55 = true then (some false) else ((r05_May.f k x383000 x383001).bind fun t402 => (if t402 = true then ((r19_Levels.f x0).bind fun t404 => ((r19_Depth.f k t404 x383000 x383001).bind fun t407 => (if t407 = 0 then (if (x7.length : Int) = 0 then (if x8 = 11 then ((w19_awake.f).bind fun t408 => (some t408)) else (some false)) else (some false)) else ((r19_Chain.f k x0 t404 x383000 x383001).bind fun t409 => ((r05_Same.f k x7 t409).bind fun t412 => (if t412 = true then (if x8 = 0 then ((w19_awake.f).bind fun t413 => (some t413)) else (some false)) else (some false))))))) else (if (x7.length : Int) = 0 then (if x8 = 1 then ((w19_awake.f).bind fun t403 => (some t403)) else (some false)) else (some false))))
def w19_WhyTells.f (k : Nat) (l0 : List (S49)) (a1_0 : ByteArray) (a1_1 : ByteArray) : Option (Bool) := (w18_Few.f k l0).bind fun t383 => ((w05_One.f a1_0 a1_1).bind fun bt386 => ((why_Depths.f t383).bind fun bt388 => ((why_Chain.f t383 bt386.1 bt386.2).bind fun bt392 => ((r18_May.f k t383).bind fun t396 => (if t396 = true then ((r19_Depths.f k t383).bind fun t398 => ((w19_deeps.f k bt388.1 t398).bind fun t401 => (if t401 = true then (w19_WhyTells.j0 k t383 bt392.1 bt392.2 (bt388.2 != 0) bt386.1 bt386.2) else (w19_WhyTells.j0 k t383 bt392.1 bt392.2 true bt386.1 bt386.2)))) else (if (bt388.1.length : Int) = 0 then (if bt388.2 = 1 then (if (bt392.1.length : Int) = 0 then (if bt392.2 = 1 then ((w19_awake.f).bind fun t397 => (some t397)) else (some false)) else (some false)) else (some false)) else (some false)))))))
theorem w19_WhyTells.mono_l : ∀ k, (∀ y0 y1 y2 y3 y4 y5, LeO (w19_WhyTells.j0 k y0 y1 y2 y3 y4 y5) (w19_WhyTells.j0 (k + 1) y0 y1 y2 y3 y4 y5))
 | 0 => fun _ _ _ _ _ _ r h => by simp [w19_WhyTells.j0] at h
 | k + 1 => by
  have ih0 := w19_WhyTells.mono_l k
  ·intro y0 y1 y2 y3 y4 y5
   unfold w19_WhyTells.j0
   repeat' first
   | (with_reducible exact ih0 _ _ _ _ _ _)
   | (with_reducible exact w18_Few.mono _ _)
   | (with_reducible exact w19_deeps.mono _ _ _)
   | (with_reducible exact r05_May.mono _ _ _)
   | (with_reducible exact r05_Same.mono _ _ _)
   | (with_reducible exact r18_May.mono _ _)
   | (with_reducible exact r19_Chain.mono _ _ _ _ _)
   | (with_reducible exact r19_Depth.mono _ _ _ _)
   | (with_reducible exact r19_Depths.mono _ _)
   | (with_reducible exact LeO.refl _)
   | (with_reducible exact LeO.none _)
   | (with_reducible refine LeO.ite ?_ ?_)
   | (with_reducible refine LeO.bind ?_ (fun _ => ?_))
   | exact ih0 _ _ _ _ _ _
   | exact w18_Few.mono _ _
   | exact w19_deeps.mono _ _ _
   | exact r05_May.mono _ _ _
   | exact r05_Same.mono _ _ _
   | exact r18_May.mono _ _
   | exact r19_Chain.mono _ _ _ _ _
   | exact r19_Depth.mono _ _ _ _
   | exact r19_Depths.mono _ _
   | exact LeO.none _
   | refine LeO.ite ?_ ?_
   | refine LeO.bind ?_ (fun _ => ?_)
theorem w19_WhyTells.mono : ∀ a0 a1 a2 k, LeO (w19_WhyTells.f k a0 a1 a2) (w19_WhyTells.f (k + 1) a0 a1 a2) := by
 intro a0 a1 a2 k
 have ih0 := w19_WhyTells.mono_l k
 unfold w19_WhyTells.f
 repeat' first
   | (with_reducible exact ih0 _ _ _ _ _ _)
   | (with_reducible exact w18_Few.mono _ _)
   | (with_reducible exact w19_deeps.mono _ _ _)
   | (with_reducible exact r05_May.mono _ _ _)
   | (with_reducible exact r05_Same.mono _ _ _)
   | (with_reducible exact r18_May.mono _ _)
   | (with_reducible exact r19_Chain.mono _ _ _ _ _)
   | (with_reducible exact r19_Depth.mono _ _ _ _)
   | (with_reducible exact r19_Depths.mono _ _)
   | (with_reducible exact LeO.refl _)
   | (with_reducible exact LeO.none _)
   | (with_reducible refine LeO.ite ?_ ?_)
   | (with_reducible refine LeO.bind ?_ (fun _ => ?_))
   | exact ih0 _ _ _ _ _ _
   | exact w18_Few.mono _ _
   | exact w19_deeps.mono _ _ _
   | exact r05_May.mono _ _ _
   | exact r05_Same.mono _ _ _
   | exact r18_May.mono _ _
   | exact r19_Chain.mono _ _ _ _ _
   | exact r19_Depth.mono _ _ _ _
   | exact r19_Depths.mono _ _
   | exact LeO.none _
   | refine LeO.ite ?_ ?_
   | refine LeO.bind ?_ (fun _ => ?_)
set_option maxHeartbeats 8000000 in
set_option maxRecDepth 100000 in
theorem w19_WhyTells.calls (k : Nat) (A0 : Option Addr) (c0 : Nat) (l0 : List (S49)) (a1_0 : ByteArray) (a1_1 : ByteArray) (r : Bool) (w : World) (hr0 : Kd.C k49 w A0 l0.length l0) (hc0 : l0.length ≤ c0) (h : w19_WhyTells.f k l0 a1_0 a1_1 = some r) :
  Calls Tryz.prog 3 #[.slice A0 l0.length c0, .agg #[.string a1_0, .string a1_1]] w fun e w' => e = .returned (.bool r) ∧ Below w.heap.size w w' := by
 have hu24 := Tryz.underlying24
 have HR0 := Aside0.mk hr0
 have HC0 := Aside0.mk hc0
 clear hr0 hc0
 have HB := Aside0.mk (Below.refl w.heap.size w)
 have H : ((w18_Few.f k l0).bind fun t383 => ((w05_One.f a1_0 a1_1).bind fun bt386 => ((why_Depths.f t383).bind fun bt388 => ((why_Chain.f t383 bt386.1 bt386.2).bind fun bt392 => ((r18_May.f k t383).bind fun t396 => (if t396 = true then ((r19_Depths.f k t383).bind fun t398 => ((w19_deeps.f k bt388.1 t398).bind fun t401 => (if t401 = true then (w19_WhyTells.j0 k t383 bt392.1 bt392.2 (bt388.2 != 0) bt386.1 bt386.2) else (w19_WhyTells.j0 k t383 bt392.1 bt392.2 true bt386.1 bt386.2)))) else (if (bt388.1.length : Int) = 0 then (if bt388.2 = 1 then (if (bt392.1.length : Int) = 0 then (if bt392.2 = 1 then ((w19_awake.f).bind fun t397 => (some t397)) else (some false)) else (some false)) else (some false)) else (some false)))))))) = some r := h
 clear h
 obtain ⟨t383, A3, H⟩ := bo H
 obtain ⟨⟨t386, t387⟩, A4, H⟩ := bo H
 replace H : ((why_Depths.f t383).bind fun bt388 => ((why_Chain.f t383 t386 t387).bind fun bt392 => ((r18_May.f k t383).bind fun t396 => (if t396 = true then ((r19_Depths.f k t383).bind fun t398 => ((w19_deeps.f k bt388.1 t398).bind fun t401 => (if t401 = true then (w19_WhyTells.j0 k t383 bt392.1 bt392.2 (bt388.2 != 0) t386 t387) else (w19_WhyTells.j0 k t383 bt392.1 bt392.2 true t386 t387)))) else (if (bt388.1.length : Int) = 0 then (if bt388.2 = 1 then (if (bt392.1.length : Int) = 0 then (if bt392.2 = 1 then ((w19_awake.f).bind fun t397 => (some t397)) else (some false)) else (some false)) else (some false)) else (some false)))))) = some r := H
 obtain ⟨⟨t388, t389⟩, A5, H⟩ := bo H
 replace H : ((why_Chain.f t383 t386 t387).bind fun bt392 => ((r18_May.f k t383).bind fun t396 => (if t396 = true then ((r19_Depths.f k t383).bind fun t398 => ((w19_deeps.f k t388 t398).bind fun t401 => (if t401 = true then (w19_WhyTells.j0 k t383 bt392.1 bt392.2 (t389 != 0) t386 t387) else (w19_WhyTells.j0 k t383 bt392.1 bt392.2 true t386 t387)))) else (if (t388.length : Int) = 0 then (if t389 = 1 then (if (bt392.1.length : Int) = 0 then (if bt392.2 = 1 then ((w19_awake.f).bind fun t397 => (some t397)) else (some false)) else (some false)) else (some false)) else (some false))))) = some r := H
 obtain ⟨⟨t392, t395⟩, A6, H⟩ := bo H
 replace H : ((r18_May.f k t383).bind fun t396 => (if t396 = true then ((r19_Depths.f k t383).bind fun t398 => ((w19_deeps.f k t388 t398).bind fun t401 => (if t401 = true then (w19_WhyTells.j0 k t383 t392 t395 (t389 != 0) t386 t387) else (w19_WhyTells.j0 k t383 t392 t395 true t386 t387)))) else (if (t388.length : Int) = 0 then (if t389 = 1 then (if (t392.length : Int) = 0 then (if t395 = 1 then ((w19_awake.f).bind fun t397 => (some t397)) else (some false)) else (some false)) else (some false)) else (some false)))) = some r := H
 obtain ⟨t396, A7, H⟩ := bo H
 by_cases c8 : t396 = true
 ·subst c8
  replace H := it H
  have HC9 := Aside0.mk H
  clear H
  go_enter Tryz.func3, Tryz.ntmps3
  try go_wp2_with (first | ((with_reducible refine gate_dst (N := 3) rfl ?_); (try (refine gate_guard (by rfl) ?_; dsimp only)); refine box_event ?hg (N := 3) ?hd (cs := #[.string a1_0, .string a1_1]) (t := 24) ?hr ?_; (case hd => rfl); (case hg => rfl); (case hr => first | (go_simp; done) | (go_simp; rfl)); intro gb382 hg w10 hbox hb; have n0_ := bs HB hb; have n1_ := Aside0.mk (hbox); have n2_ := gz hg HB; have n3_ := gz hg HB; revert n0_ n1_ n2_ n3_; clear HB; intro HB BK382 GW382 GE382; clear hb hbox hg))
  have n0_ := Aside0.mk (blk_drew BK382.out)
  have n1_ := Aside0.mk (below_drew1 HB.out)
  revert n0_ n1_
  clear BK382 HB
  intro BK382 HB
  refine start_ (n := 6) (S := fun w' => w'.cell? ⟨gb382, 0, none⟩ = some (.string a1_0) ∧ w'.cell? ⟨gb382, 1, none⟩ = some (.string a1_1)) (ds := [5]) #[false, false, false, false, false, false] (by kernel_rfl) rfl rfl ⟨bc BK382 0, bc BK382 1⟩ (fun hHeld => ?_)
  generalize w10.drew = w11 at BK382 HB hHeld ⊢
  refine pu 0 10 ?_
  refine tk 2 12 ?_
  refine oq 1 (some 11) fun K hK => ?_
  refine gs Tryz.func15 #[.slice A0 l0.length c0] ?_
  with_reducible refine (w18_Few.calls k _ _ l0 t383 _ ?side1 ?side2 A3.out).mono ?_
  (case side1 => repeat (first | exact (Kd.C_below HR0.out HB.out) | (with_reducible refine Kd.C_alloc ?_ _) | (with_reducible refine Kd.C_drewN ?_ _) | (with_reducible refine Kd.C_drew ?_)))
  (case side2 => exact HC0.out)
  rintro e w12 ⟨v384, rfl, ho0, hb⟩
  refine ⟨_, rfl, ?_⟩
  have n0_ := Aside0.mk (Kd.R_lower ho0 (bz HB))
  have n1_ := bb BK382 hb
  have n2_ := bs HB hb
  revert n0_ n1_ n2_
  clear BK382 HB
  intro HO385 BK382 HB
  try clear hb
  (try clear ho0)
  refine hK.out _ _ ⟨bc BK382 0, bc BK382 1⟩ (fun hHeld => ?_)
  clear hK K
  refine nm ?_
  refine oq 3 (some 13) fun K hK => ?_
  refine gs Tryz.func16 #[.agg #[.string a1_0, .string a1_1]] ?_
  with_reducible refine (w05_One.calls a1_0 a1_1 t386 t387 _ A4.out).mono ?_
  rintro e w13 ⟨rfl, hb⟩
  refine ⟨_, rfl, ?_⟩
  have n0_ := rb HO385 hb
  have n1_ := bb BK382 hb
  have n2_ := bs HB hb
  revert n0_ n1_ n2_
  clear HO385 BK382 HB
  intro HO385 BK382 HB
  try clear hb
  refine hK.out _ _ ⟨bc BK382 0, bc BK382 1⟩ (fun hHeld => ?_)
  clear hK K
  refine nm ?_
  refine pu 4 0 ?_
  refine lq 5 none fun K hK => ?_
  have hs14 := bc BK382 0
  have hfs14 := bf BK382 0
  have hs15 := bc BK382 1
  have hfs15 := bf BK382 1
  refine sk ?_
  refine hK.out _ _ ?_
  clear hK K
  refine dq ?_
  obtain ⟨Ao16, co16, eo16⟩ := Kd.R_slice HO385.out
  subst eo16
  go_upto_region 6 with (first | ((with_reducible refine gate_callee (f := 17) rfl ?_); refine gl 16 Tryz.func17 #[.slice Ao16 t383.length co16] ?_; (with_reducible refine (why_Depths.calls _ _ t383 t388 t389 _ ?side1 ?side2 A5.out).mono ?_); (case side1 => refine (Kd.R_reads' (e := 49) (base := w.heap.size) (ok := fun k_ => True) (n := t383.length) (c := co16) ?_).2.2; exact (by (with_reducible repeat (first | apply Kd.R_alloc | apply Kd.R_drewN | apply Kd.R_drew)); exact (Kd.R_mono (Kd.R_far (p := ⟨gb382, 1, none⟩) (Kd.R_far (p := ⟨gb382, 0, none⟩) (Kd.R_types HO385.out BK382.out (by decide)) (fun _ hk => hk.2) (.string t386)) (fun _ hk => hk.2) (.string t387)) (fun _ h_ => h_.1)))); (case side2 => exact (Kd.R_reads' HO385.out).2.1); rintro e w17 ⟨v390, rfl, ho0, hb⟩; refine ⟨_, rfl, ?_⟩; have n0_ := Aside0.mk (Kd.R_below (by (with_reducible repeat (first | apply Kd.R_alloc | apply Kd.R_drewN | apply Kd.R_drew)); exact (Kd.R_mono (Kd.R_far (p := ⟨gb382, 1, none⟩) (Kd.R_far (p := ⟨gb382, 0, none⟩) (Kd.R_types HO385.out BK382.out (by decide)) (fun _ hk => hk.2) (.string t386)) (fun _ hk => hk.2) (.string t387)) (fun _ h_ => h_.1))) hb); have n1_ := Aside0.mk (Kd.R_lower ho0 (bz HB)); have n2_ := Aside0.mk (blk_below (g := gb382) (o := .cells #[.string t386, .string t387] 24 (0, 0)) (by (with_reducible repeat (first | refine blk_drewN ?_ _ | refine blk_drew ?_ | refine blk_alloc ?_ _)); refine blk_put (cs := #[.string t386, .string a1_1]) ?_ 1 _ rfl; (with_reducible repeat (first | refine blk_drewN ?_ _ | refine blk_drew ?_ | refine blk_alloc ?_ _)); refine blk_put (cs := #[.string a1_0, .string a1_1]) ?_ 0 _ rfl; (with_reducible repeat (first | refine blk_drewN ?_ _ | refine blk_drew ?_ | refine blk_alloc ?_ _)); exact BK382.out) hb); have n3_ := bs HB hb; revert n0_ n1_ n2_ n3_; clear HO385 BK382 HB; intro HO385 HO391 BK382 HB; (try clear hb); (try clear ho0); have hcz18_0 := bc BK382 0; have hcz18_1 := bc BK382 1; have hfz18_0 := bf BK382 0; have hfz18_1 := bf BK382 1) | ((with_reducible refine gate_callee (f := 18) rfl ?_); refine gl 22 Tryz.func18 #[.slice Ao16 t383.length co16, .agg #[.string t386, .string t387]] ?_; (with_reducible refine (why_Chain.calls _ _ t383 t386 t387 t392 t395 _ ?side1 ?side2 A6.out).mono ?_); (case side1 => repeat (first | exact (Kd.R_reads' HO385.out).2.2 | (with_reducible refine Kd.C_alloc ?_ _) | (with_reducible refine Kd.C_drewN ?_ _) | (with_reducible refine Kd.C_drew ?_))); (case side2 => exact (Kd.R_reads' HO385.out).2.1); rintro e w19 ⟨v393, rfl, ho0, hb⟩; refine ⟨_, rfl, ?_⟩; have n0_ := rb HO385 hb; have n1_ := rb HO391 hb; have n2_ := Aside0.mk (Kd.R_lower (Kd.R_newB ho0 (g := gb382) (o := .cells #[.string t386, .string t387] 24 (0, 0)) (bk BK382)) (bz HB)); have n3_ := bb BK382 hb; have n4_ := bs HB hb; revert n0_ n1_ n2_ n3_ n4_; clear HO385 HO391 BK382 HB; intro HO385 HO391 HO394 BK382 HB; (try clear hb); (try clear ho0)) | ((with_reducible refine gate_callee (f := 19) rfl ?_); refine gl 26 Tryz.func19 #[.slice Ao16 t383.length co16] ?_; (with_reducible refine (r18_May.calls k _ _ t383 true _ ?side1 ?side2 A7.out).mono ?_); (case side1 => repeat (first | exact (Kd.R_reads' HO385.out).2.2 | (with_reducible refine Kd.C_alloc ?_ _) | (with_reducible refine Kd.C_drewN ?_ _) | (with_reducible refine Kd.C_drew ?_))); (case side2 => exact (Kd.R_reads' HO385.out).2.1); rintro e w20 ⟨rfl, hb⟩; refine ⟨_, rfl, ?_⟩; have n0_ := rb HO385 hb; have n1_ := rb HO391 hb; have n2_ := rb HO394 hb; have n3_ := bb BK382 hb; have n4_ := bs HB hb; revert n0_ n1_ n2_ n3_ n4_; clear HO385 HO391 HO394 BK382 HB; intro HO385 HO391 HO394 BK382 HB; (try clear hb)))
  (try simp only [Act.put, List.setIfInBounds_toArray, List.set_cons_zero, List.set_cons_succ])
  go_cut [55] (fun v55 wc => ∃ (kq : Nat) (x55_8 : Bool), v55 = .bool x55_8 ∧ Aside0 (w19_WhyTells.j0 kq t383 t392 t395 x55_8 t386 t387 = some r) ∧ Aside0 (kq ≤ k) ∧ Aside0 (Kd.R k49 49 wc w.heap.size (fun _ => True) (.slice Ao16 t383.length co16) t383) ∧ Aside0 (Kd.R k24 24 wc w.heap.size (fun k_ => k_ ≠ gb382) v393 t392) ∧ Aside0 (wc.heap[gb382]? = some (.cells #[.string t386, .string t387] 24 (0, 0))) ∧ Aside0 (Below w.heap.size w wc))
  case first =>
   have H := HC9.out
   clear HC9
   obtain ⟨t398, A21, H⟩ := bo H
   obtain ⟨t401, A22, H⟩ := bo H
   by_cases c23 : t401 = true
   ·subst c23
    replace H := it H
    have H' := Aside0.mk H
    clear H
    go_wp2_with (first | ((with_reducible refine gate_callee (f := 22) rfl ?_); refine gl 49 Tryz.func22 #[.slice Ao16 t383.length co16] ?_; (with_reducible refine (r19_Depths.calls k _ _ t383 t398 _ ?side1 ?side2 A21.out).mono ?_); (case side1 => repeat (first | exact (Kd.R_reads' HO385.out).2.2 | (with_reducible refine Kd.C_alloc ?_ _) | (with_reducible refine Kd.C_drewN ?_ _) | (with_reducible refine Kd.C_drew ?_))); (case side2 => exact (Kd.R_reads' HO385.out).2.1); rintro e w24 ⟨v399, rfl, ho0, hb⟩; refine ⟨_, rfl, ?_⟩; have n0_ := rb HO385 hb; have n1_ := Aside0.mk (Kd.R_elder' (ra HO391) (Kd.R_base ho0) hb); have n2_ := rb HO394 hb; have n3_ := Aside0.mk (Kd.R_lower (Kd.R_new' ho0 (Kd.R_lt (ra HO391))) (bz HB)); have n4_ := bb BK382 hb; have n5_ := bs HB hb; revert n0_ n1_ n2_ n3_ n4_ n5_; clear HO385 HO391 HO394 BK382 HB; intro HO385 HO391 HO394 HO400 BK382 HB; (try clear hb); (try clear ho0); obtain ⟨Ao25, co25, eo25⟩ := Kd.R_slice HO391.out; subst eo25; obtain ⟨Ao26, co26, eo26⟩ := Kd.R_slice HO400.out; subst eo26) | ((with_reducible refine gate_callee (f := 21) rfl ?_); refine gl 50 Tryz.func21 #[.slice Ao25 t388.length co25, .slice Ao26 t398.length co26] ?_; (with_reducible refine (w19_deeps.calls k _ _ t388 _ _ t398 true _ ?side1 ?side2 ?side3 ?side4 A22.out).mono ?_); (case side1 => repeat (first | exact (Kd.R_reads' HO391.out).2.2 | (with_reducible refine Kd.C_alloc ?_ _) | (with_reducible refine Kd.C_drewN ?_ _) | (with_reducible refine Kd.C_drew ?_))); (case side2 => exact (Kd.R_reads' HO391.out).2.1); (case side3 => repeat (first | exact (Kd.R_reads' HO400.out).2.2 | (with_reducible refine Kd.C_alloc ?_ _) | (with_reducible refine Kd.C_drewN ?_ _) | (with_reducible refine Kd.C_drew ?_))); (case side4 => exact (Kd.R_reads' HO400.out).2.1); rintro e w' ⟨rfl, ⟨nd, rfl⟩⟩; refine ⟨_, rfl, ?_⟩))
    go_meet
    case rel => exact ⟨_, ((t389 != 0)), (by first | rfl | (simp; done) | (simp [*]; done)), H', ⟨by first | omega | exact Nat.le_refl _⟩, ⟨ra HO385⟩, ⟨by (with_reducible repeat (first | apply Kd.R_alloc | apply Kd.R_drewN | apply Kd.R_drew)); exact Kd.R_mono HO394.out (fun _ hk => hk.2)⟩, ⟨by (with_reducible repeat (first | refine blk_drewN ?_ _ | refine blk_drew ?_ | refine blk_alloc ?_ _)); exact BK382.out⟩, ⟨ba HB⟩⟩
   ·replace c23 := Bool.eq_false_iff.mpr c23
    subst c23
    replace H := jf H
    have H' := Aside0.mk H
    clear H
    go_wp2_with (first | ((with_reducible refine gate_callee (f := 22) rfl ?_); refine gl 49 Tryz.func22 #[.slice Ao16 t383.length co16] ?_; (with_reducible refine (r19_Depths.calls k _ _ t383 t398 _ ?side1 ?side2 A21.out).mono ?_); (case side1 => repeat (first | exact (Kd.R_reads' HO385.out).2.2 | (with_reducible refine Kd.C_alloc ?_ _) | (with_reducible refine Kd.C_drewN ?_ _) | (with_reducible refine Kd.C_drew ?_))); (case side2 => exact (Kd.R_reads' HO385.out).2.1); rintro e w27 ⟨v399, rfl, ho0, hb⟩; refine ⟨_, rfl, ?_⟩; have n0_ := rb HO385 hb; have n1_ := Aside0.mk (Kd.R_elder' (ra HO391) (Kd.R_base ho0) hb); have n2_ := rb HO394 hb; have n3_ := Aside0.mk (Kd.R_lower (Kd.R_new' ho0 (Kd.R_lt (ra HO391))) (bz HB)); have n4_ := bb BK382 hb; have n5_ := bs HB hb; revert n0_ n1_ n2_ n3_ n4_ n5_; clear HO385 HO391 HO394 BK382 HB; intro HO385 HO391 HO394 HO400 BK382 HB; (try clear hb); (try clear ho0); obtain ⟨Ao28, co28, eo28⟩ := Kd.R_slice HO391.out; subst eo28; obtain ⟨Ao29, co29, eo29⟩ := Kd.R_slice HO400.out; subst eo29) | ((with_reducible refine gate_callee (f := 21) rfl ?_); refine gl 50 Tryz.func21 #[.slice Ao28 t388.length co28, .slice Ao29 t398.length co29] ?_; (with_reducible refine (w19_deeps.calls k _ _ t388 _ _ t398 false _ ?side1 ?side2 ?side3 ?side4 A22.out).mono ?_); (case side1 => repeat (first | exact (Kd.R_reads' HO391.out).2.2 | (with_reducible refine Kd.C_alloc ?_ _) | (with_reducible refine Kd.C_drewN ?_ _) | (with_reducible refine Kd.C_drew ?_))); (case side2 => exact (Kd.R_reads' HO391.out).2.1); (case side3 => repeat (first | exact (Kd.R_reads' HO400.out).2.2 | (with_reducible refine Kd.C_alloc ?_ _) | (with_reducible refine Kd.C_drewN ?_ _) | (with_reducible refine Kd.C_drew ?_))); (case side4 => exact (Kd.R_reads' HO400.out).2.1); rintro e w' ⟨rfl, ⟨nd, rfl⟩⟩; refine ⟨_, rfl, ?_⟩))
    go_meet
    case rel => exact ⟨_, (true), (by first | rfl | (simp; done) | (simp [*]; done)), H', ⟨by first | omega | exact Nat.le_refl _⟩, ⟨ra HO385⟩, ⟨by (with_reducible repeat (first | apply Kd.R_alloc | apply Kd.R_drewN | apply Kd.R_drew)); exact Kd.R_mono HO394.out (fun _ hk => hk.2)⟩, ⟨by (with_reducible repeat (first | refine blk_drewN ?_ _ | refine blk_drew ?_ | refine blk_alloc ?_ _)); exact BK382.out⟩, ⟨ba HB⟩⟩
  case rest =>
   clear HC9
   try clear c1
   try clear c2
   try clear p2
   try clear c3
   try clear c8
   try clear c15
   try clear c16
   try clear c17
   try clear c18
   try clear c19
   try clear c21
   try clear c22
   try clear c23
   try clear hcz18_0
   try clear hcz18_1
   try clear hfz18_0
   try clear hfz18_1
   obtain ⟨kq, x55_8, rfl, HA, HJ8, HO_0, HO_7, BK382, HB⟩ := hcut
   cases kq with
   | zero => exact absurd HA.out (by simp [w19_WhyTells.j0])
   | succ kj8 =>
    have H := HA.out
    clear HA
    simp only [w19_WhyTells.j0] at H
    by_cases c30 : x55_8 = true
    ·subst c30
     replace H := it H
     obtain rfl := Option.some.inj H
     go_wp2
     go_ret
     exact ⟨by first | rfl | (simp [errW_none, errW_some] <;> rfl) | (simp [*, errW_none, errW_some] <;> rfl), ba HB⟩
    ·replace c30 := Bool.eq_false_iff.mpr c30
     subst c30
     replace H := jf H
     obtain ⟨t402, A31, H⟩ := bo H
     by_cases c32 : t402 = true
     ·subst c32
      replace H := it H
      obtain ⟨t404, A33, H⟩ := bo H
      obtain ⟨t407, A34, H⟩ := bo H
      by_cases c35 : t407 = 0
      ·rw [if_pos c35] at H
       have c35b0 := beq_iff_eq.mpr c35
       have c35b1 := bne_eq_false_iff_eq.mpr c35
       clear c35
       by_cases c36 : (t392.length : Int) = 0
       ·rw [if_pos c36] at H
        have c36b0 := beq_iff_eq.mpr c36
        have c36b1 := bne_eq_false_iff_eq.mpr c36
        clear c36
        by_cases c37 : t395 = 11
        ·rw [if_pos c37] at H
         have c37b0 := beq_iff_eq.mpr c37
         have c37b1 := bne_eq_false_iff_eq.mpr c37
         clear c37
         obtain ⟨t408, A38, H⟩ := bo H
         obtain rfl := Option.some.inj H
         have hcz39_0 := bc BK382 0
         have hcz39_1 := bc BK382 1
         have hfz39_0 := bf BK382 0
         have hfz39_1 := bf BK382 1
         go_wp2_with (first | ((with_reducible refine gate_callee (f := 23) rfl ?_); refine gl 57 Tryz.func23 #[.agg #[.string t386, .string t387]] ?_; (with_reducible refine (r05_May.calls kj8 t386 t387 true _ A31.out).mono ?_); rintro e w40 ⟨rfl, hb⟩; refine ⟨_, rfl, ?_⟩; have n0_ := rb HO_0 hb; have n1_ := rb HO_7 hb; have n2_ := bb BK382 hb; have n3_ := bs HB hb; revert n0_ n1_ n2_ n3_; clear HO_0 HO_7 BK382 HB; intro HO_0 HO_7 BK382 HB; (try clear hb)) | ((with_reducible refine gate_callee (f := 24) rfl ?_); refine gl 70 Tryz.func24 #[.slice Ao16 t383.length co16] ?_; (with_reducible refine (r19_Levels.calls _ _ t383 t404 _ ?side1 ?side2 A33.out).mono ?_); (case side1 => repeat (first | exact (Kd.R_reads' HO_0.out).2.2 | (with_reducible refine Kd.C_alloc ?_ _) | (with_reducible refine Kd.C_drewN ?_ _) | (with_reducible refine Kd.C_drew ?_))); (case side2 => exact (Kd.R_reads' HO_0.out).2.1); rintro e w41 ⟨v405, rfl, ho0, hb⟩; refine ⟨_, rfl, ?_⟩; have n0_ := rb HO_0 hb; have n1_ := rb HO_7 hb; have n2_ := Aside0.mk (Kd.S_lower (Kd.S_newB (Kd.S_new' ho0 (Kd.R_lt (ra HO_7))) (g := gb382) (o := .cells #[.string t386, .string t387] 24 (0, 0)) (bk BK382)) (bz HB)); have n3_ := bb BK382 hb; have n4_ := bs HB hb; revert n0_ n1_ n2_ n3_ n4_; clear HO_0 HO_7 BK382 HB; intro HO_0 HO_7 HO406 BK382 HB; (try clear hb); (try clear ho0); have hcz42_0 := bc BK382 0; have hcz42_1 := bc BK382 1; have hfz42_0 := bf BK382 0; have hfz42_1 := bf BK382 1; obtain ⟨Ao43, co43, eo43⟩ := Kd.S_slice HO406.out; subst eo43) | ((with_reducible refine gate_callee (f := 25) rfl ?_); refine gl 73 Tryz.func25 #[.slice Ao43 t404.length co43, .agg #[.string t386, .string t387]] ?_; (with_reducible refine (r19_Depth.calls kj8 _ _ t404 t386 t387 t407 _ ?side1 ?side2 A34.out).mono ?_); (case side1 => repeat (first | exact (Kd.S_reads' HO406.out).2.2 | (with_reducible refine Kd.C_alloc ?_ _) | (with_reducible refine Kd.C_drewN ?_ _) | (with_reducible refine Kd.C_drew ?_))); (case side2 => exact (Kd.S_reads' HO406.out).2.1); rintro e w44 ⟨rfl, hb⟩; refine ⟨_, rfl, ?_⟩; have n0_ := rb HO_0 hb; have n1_ := rb HO_7 hb; have n2_ := Aside0.mk (Kd.S_below (by (with_reducible repeat (first | apply Kd.S_alloc | apply Kd.S_drewN | apply Kd.S_drew)); exact HO406.out) hb); have n3_ := bb BK382 hb; have n4_ := bs HB hb; revert n0_ n1_ n2_ n3_ n4_; clear HO_0 HO_7 HO406 BK382 HB; intro HO_0 HO_7 HO406 BK382 HB; (try clear hb); obtain ⟨Ao45, co45, eo45⟩ := Kd.R_slice HO_7.out; subst eo45) | (go_at_call 20; (with_reducible refine (w19_awake.calls  t408 _ A38.out).mono ?_); rintro e w46 ⟨rfl, hb⟩; have n0_ := rb HO_0 hb; have n1_ := rb HO_7 hb; have n2_ := Aside0.mk (Kd.S_below (by (with_reducible repeat (first | apply Kd.S_alloc | apply Kd.S_drewN | apply Kd.S_drew)); exact HO406.out) hb); have n3_ := bb BK382 hb; have n4_ := bs HB hb; revert n0_ n1_ n2_ n3_ n4_; clear HO_0 HO_7 HO406 BK382 HB; intro HO_0 HO_7 HO406 BK382 HB; (try clear hb)))
         go_ret
         exact ⟨by first | rfl | (simp [errW_none, errW_some] <;> rfl) | (simp [*, errW_none, errW_some] <;> rfl), ba HB⟩
        ·rw [if_neg c37] at H
         have c37b0 := beq_eq_false_iff_ne.mpr c37
         have c37b1 := bne_iff_ne.mpr c37
         obtain rfl := Option.some.inj H
         have hcz47_0 := bc BK382 0
         have hcz47_1 := bc BK382 1
         have hfz47_0 := bf BK382 0
         have hfz47_1 := bf BK382 1
         go_wp2_with (first | ((with_reducible refine gate_callee (f := 23) rfl ?_); refine gl 57 Tryz.func23 #[.agg #[.string t386, .string t387]] ?_; (with_reducible refine (r05_May.calls kj8 t386 t387 true _ A31.out).mono ?_); rintro e w48 ⟨rfl, hb⟩; refine ⟨_, rfl, ?_⟩; have n0_ := rb HO_0 hb; have n1_ := rb HO_7 hb; have n2_ := bb BK382 hb; have n3_ := bs HB hb; revert n0_ n1_ n2_ n3_; clear HO_0 HO_7 BK382 HB; intro HO_0 HO_7 BK382 HB; (try clear hb)) | ((with_reducible refine gate_callee (f := 24) rfl ?_); refine gl 70 Tryz.func24 #[.slice Ao16 t383.length co16] ?_; (with_reducible refine (r19_Levels.calls _ _ t383 t404 _ ?side1 ?side2 A33.out).mono ?_); (case side1 => repeat (first | exact (Kd.R_reads' HO_0.out).2.2 | (with_reducible refine Kd.C_alloc ?_ _) | (with_reducible refine Kd.C_drewN ?_ _) | (with_reducible refine Kd.C_drew ?_))); (case side2 => exact (Kd.R_reads' HO_0.out).2.1); rintro e w49 ⟨v405, rfl, ho0, hb⟩; refine ⟨_, rfl, ?_⟩; have n0_ := rb HO_0 hb; have n1_ := rb HO_7 hb; have n2_ := Aside0.mk (Kd.S_lower (Kd.S_newB (Kd.S_new' ho0 (Kd.R_lt (ra HO_7))) (g := gb382) (o := .cells #[.string t386, .string t387] 24 (0, 0)) (bk BK382)) (bz HB)); have n3_ := bb BK382 hb; have n4_ := bs HB hb; revert n0_ n1_ n2_ n3_ n4_; clear HO_0 HO_7 BK382 HB; intro HO_0 HO_7 HO406 BK382 HB; (try clear hb); (try clear ho0); have hcz50_0 := bc BK382 0; have hcz50_1 := bc BK382 1; have hfz50_0 := bf BK382 0; have hfz50_1 := bf BK382 1; obtain ⟨Ao51, co51, eo51⟩ := Kd.S_slice HO406.out; subst eo51) | ((with_reducible refine gate_callee (f := 25) rfl ?_); refine gl 73 Tryz.func25 #[.slice Ao51 t404.length co51, .agg #[.string t386, .string t387]] ?_; (with_reducible refine (r19_Depth.calls kj8 _ _ t404 t386 t387 t407 _ ?side1 ?side2 A34.out).mono ?_); (case side1 => repeat (first | exact (Kd.S_reads' HO406.out).2.2 | (with_reducible refine Kd.C_alloc ?_ _) | (with_reducible refine Kd.C_drewN ?_ _) | (with_reducible refine Kd.C_drew ?_))); (case side2 => exact (Kd.S_reads' HO406.out).2.1); rintro e w52 ⟨rfl, hb⟩; refine ⟨_, rfl, ?_⟩; have n0_ := rb HO_0 hb; have n1_ := rb HO_7 hb; have n2_ := Aside0.mk (Kd.S_below (by (with_reducible repeat (first | apply Kd.S_alloc | apply Kd.S_drewN | apply Kd.S_drew)); exact HO406.out) hb); have n3_ := bb BK382 hb; have n4_ := bs HB hb; revert n0_ n1_ n2_ n3_ n4_; clear HO_0 HO_7 HO406 BK382 HB; intro HO_0 HO_7 HO406 BK382 HB; (try clear hb); obtain ⟨Ao53, co53, eo53⟩ := Kd.R_slice HO_7.out; subst eo53))
         go_ret
         exact ⟨by first | rfl | (simp [errW_none, errW_some] <;> rfl) | (simp [*, errW_none, errW_some] <;> rfl), ba HB⟩
       ·rw [if_neg c36] at H
        have c36b0 := beq_eq_false_iff_ne.mpr c36
        have c36b1 := bne_iff_ne.mpr c36
        have c36b2 : ¬ (t392 = []) := fun h_ => c36 (by rw [h_]; rfl)
        obtain rfl := Option.some.inj H
        have hcz54_0 := bc BK382 0
        have hcz54_1 := bc BK382 1
        have hfz54_0 := bf BK382 0
        have hfz54_1 := bf BK382 1
        go_wp2_with (first | ((with_reducible refine gate_callee (f := 23) rfl ?_); refine gl 57 Tryz.func23 #[.agg #[.string t386, .string t387]] ?_; (with_reducible refine (r05_May.calls kj8 t386 t387 true _ A31.out).mono ?_); rintro e w55 ⟨rfl, hb⟩; refine ⟨_, rfl, ?_⟩; have n0_ := rb HO_0 hb; have n1_ := rb HO_7 hb; have n2_ := bb BK382 hb; have n3_ := bs HB hb; revert n0_ n1_ n2_ n3_; clear HO_0 HO_7 BK382 HB; intro HO_0 HO_7 BK382 HB; (try clear hb)) | ((with_reducible refine gate_callee (f := 24) rfl ?_); refine gl 70 Tryz.func24 #[.slice Ao16 t383.length co16] ?_; (with_reducible refine (r19_Levels.calls _ _ t383 t404 _ ?side1 ?side2 A33.out).mono ?_); (case side1 => repeat (first | exact (Kd.R_reads' HO_0.out).2.2 | (with_reducible refine Kd.C_alloc ?_ _) | (with_reducible refine Kd.C_drewN ?_ _) | (with_reducible refine Kd.C_drew ?_))); (case side2 => exact (Kd.R_reads' HO_0.out).2.1); rintro e w56 ⟨v405, rfl, ho0, hb⟩; refine ⟨_, rfl, ?_⟩; have n0_ := rb HO_0 hb; have n1_ := rb HO_7 hb; have n2_ := Aside0.mk (Kd.S_lower (Kd.S_newB (Kd.S_new' ho0 (Kd.R_lt (ra HO_7))) (g := gb382) (o := .cells #[.string t386, .string t387] 24 (0, 0)) (bk BK382)) (bz HB)); have n3_ := bb BK382 hb; have n4_ := bs HB hb; revert n0_ n1_ n2_ n3_ n4_; clear HO_0 HO_7 BK382 HB; intro HO_0 HO_7 HO406 BK382 HB; (try clear hb); (try clear ho0); have hcz57_0 := bc BK382 0; have hcz57_1 := bc BK382 1; have hfz57_0 := bf BK382 0; have hfz57_1 := bf BK382 1; obtain ⟨Ao58, co58, eo58⟩ := Kd.S_slice HO406.out; subst eo58) | ((with_reducible refine gate_callee (f := 25) rfl ?_); refine gl 73 Tryz.func25 #[.slice Ao58 t404.length co58, .agg #[.string t386, .string t387]] ?_; (with_reducible refine (r19_Depth.calls kj8 _ _ t404 t386 t387 t407 _ ?side1 ?side2 A34.out).mono ?_); (case side1 => repeat (first | exact (Kd.S_reads' HO406.out).2.2 | (with_reducible refine Kd.C_alloc ?_ _) | (with_reducible refine Kd.C_drewN ?_ _) | (with_reducible refine Kd.C_drew ?_))); (case side2 => exact (Kd.S_reads' HO406.out).2.1); rintro e w59 ⟨rfl, hb⟩; refine ⟨_, rfl, ?_⟩; have n0_ := rb HO_0 hb; have n1_ := rb HO_7 hb; have n2_ := Aside0.mk (Kd.S_below (by (with_reducible repeat (first | apply Kd.S_alloc | apply Kd.S_drewN | apply Kd.S_drew)); exact HO406.out) hb); have n3_ := bb BK382 hb; have n4_ := bs HB hb; revert n0_ n1_ n2_ n3_ n4_; clear HO_0 HO_7 HO406 BK382 HB; intro HO_0 HO_7 HO406 BK382 HB; (try clear hb); obtain ⟨Ao60, co60, eo60⟩ := Kd.R_slice HO_7.out; subst eo60))
        go_ret
        exact ⟨by first | rfl | (simp [errW_none, errW_some] <;> rfl) | (simp [*, errW_none, errW_some] <;> rfl), ba HB⟩
      ·rw [if_neg c35] at H
       have c35b0 := beq_eq_false_iff_ne.mpr c35
       have c35b1 := bne_iff_ne.mpr c35
       obtain ⟨t409, A61, H⟩ := bo H
       obtain ⟨t412, A62, H⟩ := bo H
       by_cases c63 : t412 = true
       ·subst c63
        replace H := it H
        by_cases c64 : t395 = 0
        ·rw [if_pos c64] at H
         have c64b0 := beq_iff_eq.mpr c64
         have c64b1 := bne_eq_false_iff_eq.mpr c64
         clear c64
         obtain ⟨t413, A65, H⟩ := bo H
         obtain rfl := Option.some.inj H
         have hcz66_0 := bc BK382 0
         have hcz66_1 := bc BK382 1
         have hfz66_0 := bf BK382 0
         have hfz66_1 := bf BK382 1
         go_wp2_with (first | ((with_reducible refine gate_callee (f := 23) rfl ?_); refine gl 57 Tryz.func23 #[.agg #[.string t386, .string t387]] ?_; (with_reducible refine (r05_May.calls kj8 t386 t387 true _ A31.out).mono ?_); rintro e w67 ⟨rfl, hb⟩; refine ⟨_, rfl, ?_⟩; have n0_ := rb HO_0 hb; have n1_ := rb HO_7 hb; have n2_ := bb BK382 hb; have n3_ := bs HB hb; revert n0_ n1_ n2_ n3_; clear HO_0 HO_7 BK382 HB; intro HO_0 HO_7 BK382 HB; (try clear hb)) | ((with_reducible refine gate_callee (f := 24) rfl ?_); refine gl 70 Tryz.func24 #[.slice Ao16 t383.length co16] ?_; (with_reducible refine (r19_Levels.calls _ _ t383 t404 _ ?side1 ?side2 A33.out).mono ?_); (case side1 => repeat (first | exact (Kd.R_reads' HO_0.out).2.2 | (with_reducible refine Kd.C_alloc ?_ _) | (with_reducible refine Kd.C_drewN ?_ _) | (with_reducible refine Kd.C_drew ?_))); (case side2 => exact (Kd.R_reads' HO_0.out).2.1); rintro e w68 ⟨v405, rfl, ho0, hb⟩; refine ⟨_, rfl, ?_⟩; have n0_ := rb HO_0 hb; have n1_ := rb HO_7 hb; have n2_ := Aside0.mk (Kd.S_lower (Kd.S_newB (Kd.S_new' ho0 (Kd.R_lt (ra HO_7))) (g := gb382) (o := .cells #[.string t386, .string t387] 24 (0, 0)) (bk BK382)) (bz HB)); have n3_ := bb BK382 hb; have n4_ := bs HB hb; revert n0_ n1_ n2_ n3_ n4_; clear HO_0 HO_7 BK382 HB; intro HO_0 HO_7 HO406 BK382 HB; (try clear hb); (try clear ho0); have hcz69_0 := bc BK382 0; have hcz69_1 := bc BK382 1; have hfz69_0 := bf BK382 0; have hfz69_1 := bf BK382 1; obtain ⟨Ao70, co70, eo70⟩ := Kd.S_slice HO406.out; subst eo70) | ((with_reducible refine gate_callee (f := 25) rfl ?_); refine gl 73 Tryz.func25 #[.slice Ao70 t404.length co70, .agg #[.string t386, .string t387]] ?_; (with_reducible refine (r19_Depth.calls kj8 _ _ t404 t386 t387 t407 _ ?side1 ?side2 A34.out).mono ?_); (case side1 => repeat (first | exact (Kd.S_reads' HO406.out).2.2 | (with_reducible refine Kd.C_alloc ?_ _) | (with_reducible refine Kd.C_drewN ?_ _) | (with_reducible refine Kd.C_drew ?_))); (case side2 => exact (Kd.S_reads' HO406.out).2.1); rintro e w71 ⟨rfl, hb⟩; refine ⟨_, rfl, ?_⟩; have n0_ := rb HO_0 hb; have n1_ := rb HO_7 hb; have n2_ := Aside0.mk (Kd.S_below (by (with_reducible repeat (first | apply Kd.S_alloc | apply Kd.S_drewN | apply Kd.S_drew)); exact HO406.out) hb); have n3_ := bb BK382 hb; have n4_ := bs HB hb; revert n0_ n1_ n2_ n3_ n4_; clear HO_0 HO_7 HO406 BK382 HB; intro HO_0 HO_7 HO406 BK382 HB; (try clear hb); have hcz72_0 := bc BK382 0; have hcz72_1 := bc BK382 1; have hfz72_0 := bf BK382 0; have hfz72_1 := bf BK382 1) | ((with_reducible refine gate_callee (f := 27) rfl ?_); refine gl 89 Tryz.func27 #[.slice Ao16 t383.length co16, .slice Ao70 t404.length co70, .agg #[.string t386, .string t387]] ?_; (with_reducible refine (r19_Chain.calls kj8 _ _ t383 _ _ t404 t386 t387 t409 _ ?side1 ?side2 ?side3 ?side4 A61.out).mono ?_); (case side1 => repeat (first | exact (Kd.R_reads' HO_0.out).2.2 | (with_reducible refine Kd.C_alloc ?_ _) | (with_reducible refine Kd.C_drewN ?_ _) | (with_reducible refine Kd.C_drew ?_))); (case side2 => exact (Kd.R_reads' HO_0.out).2.1); (case side3 => repeat (first | exact (Kd.S_reads' HO406.out).2.2 | (with_reducible refine Kd.C_alloc ?_ _) | (with_reducible refine Kd.C_drewN ?_ _) | (with_reducible refine Kd.C_drew ?_))); (case side4 => exact (Kd.S_reads' HO406.out).2.1); rintro e w73 ⟨v410, rfl, ho0, hb⟩; refine ⟨_, rfl, ?_⟩; have n0_ := rb HO_0 hb; have n1_ := Aside0.mk (Kd.R_elder' (ra HO_7) (Kd.R_base ho0) hb); have n2_ := Aside0.mk (Kd.S_elder' (by (with_reducible repeat (first | apply Kd.S_alloc | apply Kd.S_drewN | apply Kd.S_drew)); exact HO406.out) (Kd.R_base ho0) hb); have n3_ := Aside0.mk (Kd.R_lower (Kd.R_newB (Kd.R_new' ho0 (Kd.R_lt (ra HO_7))) (g := gb382) (o := .cells #[.string t386, .string t387] 24 (0, 0)) (bk BK382)) (bz HB)); have n4_ := bb BK382 hb; have n5_ := bs HB hb; revert n0_ n1_ n2_ n3_ n4_ n5_; clear HO_0 HO_7 HO406 BK382 HB; intro HO_0 HO_7 HO406 HO411 BK382 HB; (try clear hb); (try clear ho0); obtain ⟨Ao74, co74, eo74⟩ := Kd.R_slice HO_7.out; subst eo74; obtain ⟨Ao75, co75, eo75⟩ := Kd.R_slice HO411.out; subst eo75) | ((with_reducible refine gate_callee (f := 26) rfl ?_); refine gl 90 Tryz.func26 #[.slice Ao74 t392.length co74, .slice Ao75 t409.length co75] ?_; (with_reducible refine (r05_Same.calls kj8 _ _ t392 _ _ t409 true _ ?side1 ?side2 ?side3 ?side4 A62.out).mono ?_); (case side1 => repeat (first | exact (Kd.R_reads' HO_7.out).2.2 | (with_reducible refine Kd.C_alloc ?_ _) | (with_reducible refine Kd.C_drewN ?_ _) | (with_reducible refine Kd.C_drew ?_))); (case side2 => exact (Kd.R_reads' HO_7.out).2.1); (case side3 => repeat (first | exact (Kd.R_reads' HO411.out).2.2 | (with_reducible refine Kd.C_alloc ?_ _) | (with_reducible refine Kd.C_drewN ?_ _) | (with_reducible refine Kd.C_drew ?_))); (case side4 => exact (Kd.R_reads' HO411.out).2.1); rintro e w' ⟨rfl, ⟨nd, rfl⟩⟩; refine ⟨_, rfl, ?_⟩) | (go_at_call 20; (with_reducible refine (w19_awake.calls  t413 _ A65.out).mono ?_); rintro e w76 ⟨rfl, hb⟩; have n0_ := rb HO_0 hb; have n1_ := rb HO_7 hb; have n2_ := Aside0.mk (Kd.S_below (by (with_reducible repeat (first | apply Kd.S_alloc | apply Kd.S_drewN | apply Kd.S_drew)); exact HO406.out) hb); have n3_ := rb HO411 hb; have n4_ := bb BK382 hb; have n5_ := bs HB hb; revert n0_ n1_ n2_ n3_ n4_ n5_; clear HO_0 HO_7 HO406 HO411 BK382 HB; intro HO_0 HO_7 HO406 HO411 BK382 HB; (try clear hb)))
         go_ret
         exact ⟨by first | rfl | (simp [errW_none, errW_some] <;> rfl) | (simp [*, errW_none, errW_some] <;> rfl), ba HB⟩
        ·rw [if_neg c64] at H
         have c64b0 := beq_eq_false_iff_ne.mpr c64
         have c64b1 := bne_iff_ne.mpr c64
         obtain rfl := Option.some.inj H
         have hcz77_0 := bc BK382 0
         have hcz77_1 := bc BK382 1
         have hfz77_0 := bf BK382 0
         have hfz77_1 := bf BK382 1
         go_wp2_with (first | ((with_reducible refine gate_callee (f := 23) rfl ?_); refine gl 57 Tryz.func23 #[.agg #[.string t386, .string t387]] ?_; (with_reducible refine (r05_May.calls kj8 t386 t387 true _ A31.out).mono ?_); rintro e w78 ⟨rfl, hb⟩; refine ⟨_, rfl, ?_⟩; have n0_ := rb HO_0 hb; have n1_ := rb HO_7 hb; have n2_ := bb BK382 hb; have n3_ := bs HB hb; revert n0_ n1_ n2_ n3_; clear HO_0 HO_7 BK382 HB; intro HO_0 HO_7 BK382 HB; (try clear hb)) | ((with_reducible refine gate_callee (f := 24) rfl ?_); refine gl 70 Tryz.func24 #[.slice Ao16 t383.length co16] ?_; (with_reducible refine (r19_Levels.calls _ _ t383 t404 _ ?side1 ?side2 A33.out).mono ?_); (case side1 => repeat (first | exact (Kd.R_reads' HO_0.out).2.2 | (with_reducible refine Kd.C_alloc ?_ _) | (with_reducible refine Kd.C_drewN ?_ _) | (with_reducible refine Kd.C_drew ?_))); (case side2 => exact (Kd.R_reads' HO_0.out).2.1); rintro e w79 ⟨v405, rfl, ho0, hb⟩; refine ⟨_, rfl, ?_⟩; have n0_ := rb HO_0 hb; have n1_ := rb HO_7 hb; have n2_ := Aside0.mk (Kd.S_lower (Kd.S_newB (Kd.S_new' ho0 (Kd.R_lt (ra HO_7))) (g := gb382) (o := .cells #[.string t386, .string t387] 24 (0, 0)) (bk BK382)) (bz HB)); have n3_ := bb BK382 hb; have n4_ := bs HB hb; revert n0_ n1_ n2_ n3_ n4_; clear HO_0 HO_7 BK382 HB; intro HO_0 HO_7 HO406 BK382 HB; (try clear hb); (try clear ho0); have hcz80_0 := bc BK382 0; have hcz80_1 := bc BK382 1; have hfz80_0 := bf BK382 0; have hfz80_1 := bf BK382 1; obtain ⟨Ao81, co81, eo81⟩ := Kd.S_slice HO406.out; subst eo81) | ((with_reducible refine gate_callee (f := 25) rfl ?_); refine gl 73 Tryz.func25 #[.slice Ao81 t404.length co81, .agg #[.string t386, .string t387]] ?_; (with_reducible refine (r19_Depth.calls kj8 _ _ t404 t386 t387 t407 _ ?side1 ?side2 A34.out).mono ?_); (case side1 => repeat (first | exact (Kd.S_reads' HO406.out).2.2 | (with_reducible refine Kd.C_alloc ?_ _) | (with_reducible refine Kd.C_drewN ?_ _) | (with_reducible refine Kd.C_drew ?_))); (case side2 => exact (Kd.S_reads' HO406.out).2.1); rintro e w82 ⟨rfl, hb⟩; refine ⟨_, rfl, ?_⟩; have n0_ := rb HO_0 hb; have n1_ := rb HO_7 hb; have n2_ := Aside0.mk (Kd.S_below (by (with_reducible repeat (first | apply Kd.S_alloc | apply Kd.S_drewN | apply Kd.S_drew)); exact HO406.out) hb); have n3_ := bb BK382 hb; have n4_ := bs HB hb; revert n0_ n1_ n2_ n3_ n4_; clear HO_0 HO_7 HO406 BK382 HB; intro HO_0 HO_7 HO406 BK382 HB; (try clear hb); have hcz83_0 := bc BK382 0; have hcz83_1 := bc BK382 1; have hfz83_0 := bf BK382 0; have hfz83_1 := bf BK382 1) | ((with_reducible refine gate_callee (f := 27) rfl ?_); refine gl 89 Tryz.func27 #[.slice Ao16 t383.length co16, .slice Ao81 t404.length co81, .agg #[.string t386, .string t387]] ?_; (with_reducible refine (r19_Chain.calls kj8 _ _ t383 _ _ t404 t386 t387 t409 _ ?side1 ?side2 ?side3 ?side4 A61.out).mono ?_); (case side1 => repeat (first | exact (Kd.R_reads' HO_0.out).2.2 | (with_reducible refine Kd.C_alloc ?_ _) | (with_reducible refine Kd.C_drewN ?_ _) | (with_reducible refine Kd.C_drew ?_))); (case side2 => exact (Kd.R_reads' HO_0.out).2.1); (case side3 => repeat (first | exact (Kd.S_reads' HO406.out).2.2 | (with_reducible refine Kd.C_alloc ?_ _) | (with_reducible refine Kd.C_drewN ?_ _) | (with_reducible refine Kd.C_drew ?_))); (case side4 => exact (Kd.S_reads' HO406.out).2.1); rintro e w84 ⟨v410, rfl, ho0, hb⟩; refine ⟨_, rfl, ?_⟩; have n0_ := rb HO_0 hb; have n1_ := Aside0.mk (Kd.R_elder' (ra HO_7) (Kd.R_base ho0) hb); have n2_ := Aside0.mk (Kd.S_elder' (by (with_reducible repeat (first | apply Kd.S_alloc | apply Kd.S_drewN | apply Kd.S_drew)); exact HO406.out) (Kd.R_base ho0) hb); have n3_ := Aside0.mk (Kd.R_lower (Kd.R_newB (Kd.R_new' ho0 (Kd.R_lt (ra HO_7))) (g := gb382) (o := .cells #[.string t386, .string t387] 24 (0, 0)) (bk BK382)) (bz HB)); have n4_ := bb BK382 hb; have n5_ := bs HB hb; revert n0_ n1_ n2_ n3_ n4_ n5_; clear HO_0 HO_7 HO406 BK382 HB; intro HO_0 HO_7 HO406 HO411 BK382 HB; (try clear hb); (try clear ho0); obtain ⟨Ao85, co85, eo85⟩ := Kd.R_slice HO_7.out; subst eo85; obtain ⟨Ao86, co86, eo86⟩ := Kd.R_slice HO411.out; subst eo86) | ((with_reducible refine gate_callee (f := 26) rfl ?_); refine gl 90 Tryz.func26 #[.slice Ao85 t392.length co85, .slice Ao86 t409.length co86] ?_; (with_reducible refine (r05_Same.calls kj8 _ _ t392 _ _ t409 true _ ?side1 ?side2 ?side3 ?side4 A62.out).mono ?_); (case side1 => repeat (first | exact (Kd.R_reads' HO_7.out).2.2 | (with_reducible refine Kd.C_alloc ?_ _) | (with_reducible refine Kd.C_drewN ?_ _) | (with_reducible refine Kd.C_drew ?_))); (case side2 => exact (Kd.R_reads' HO_7.out).2.1); (case side3 => repeat (first | exact (Kd.R_reads' HO411.out).2.2 | (with_reducible refine Kd.C_alloc ?_ _) | (with_reducible refine Kd.C_drewN ?_ _) | (with_reducible refine Kd.C_drew ?_))); (case side4 => exact (Kd.R_reads' HO411.out).2.1); rintro e w' ⟨rfl, ⟨nd, rfl⟩⟩; refine ⟨_, rfl, ?_⟩))
         go_ret
         exact ⟨by first | rfl | (simp [errW_none, errW_some] <;> rfl) | (simp [*, errW_none, errW_some] <;> rfl), ba HB⟩
       ·replace c63 := Bool.eq_false_iff.mpr c63
        subst c63
        replace H := jf H
        obtain rfl := Option.some.inj H
        have hcz87_0 := bc BK382 0
        have hcz87_1 := bc BK382 1
        have hfz87_0 := bf BK382 0
        have hfz87_1 := bf BK382 1
        go_wp2_with (first | ((with_reducible refine gate_callee (f := 23) rfl ?_); refine gl 57 Tryz.func23 #[.agg #[.string t386, .string t387]] ?_; (with_reducible refine (r05_May.calls kj8 t386 t387 true _ A31.out).mono ?_); rintro e w88 ⟨rfl, hb⟩; refine ⟨_, rfl, ?_⟩; have n0_ := rb HO_0 hb; have n1_ := rb HO_7 hb; have n2_ := bb BK382 hb; have n3_ := bs HB hb; revert n0_ n1_ n2_ n3_; clear HO_0 HO_7 BK382 HB; intro HO_0 HO_7 BK382 HB; (try clear hb)) | ((with_reducible refine gate_callee (f := 24) rfl ?_); refine gl 70 Tryz.func24 #[.slice Ao16 t383.length co16] ?_; (with_reducible refine (r19_Levels.calls _ _ t383 t404 _ ?side1 ?side2 A33.out).mono ?_); (case side1 => repeat (first | exact (Kd.R_reads' HO_0.out).2.2 | (with_reducible refine Kd.C_alloc ?_ _) | (with_reducible refine Kd.C_drewN ?_ _) | (with_reducible refine Kd.C_drew ?_))); (case side2 => exact (Kd.R_reads' HO_0.out).2.1); rintro e w89 ⟨v405, rfl, ho0, hb⟩; refine ⟨_, rfl, ?_⟩; have n0_ := rb HO_0 hb; have n1_ := rb HO_7 hb; have n2_ := Aside0.mk (Kd.S_lower (Kd.S_newB (Kd.S_new' ho0 (Kd.R_lt (ra HO_7))) (g := gb382) (o := .cells #[.string t386, .string t387] 24 (0, 0)) (bk BK382)) (bz HB)); have n3_ := bb BK382 hb; have n4_ := bs HB hb; revert n0_ n1_ n2_ n3_ n4_; clear HO_0 HO_7 BK382 HB; intro HO_0 HO_7 HO406 BK382 HB; (try clear hb); (try clear ho0); have hcz90_0 := bc BK382 0; have hcz90_1 := bc BK382 1; have hfz90_0 := bf BK382 0; have hfz90_1 := bf BK382 1; obtain ⟨Ao91, co91, eo91⟩ := Kd.S_slice HO406.out; subst eo91) | ((with_reducible refine gate_callee (f := 25) rfl ?_); refine gl 73 Tryz.func25 #[.slice Ao91 t404.length co91, .agg #[.string t386, .string t387]] ?_; (with_reducible refine (r19_Depth.calls kj8 _ _ t404 t386 t387 t407 _ ?side1 ?side2 A34.out).mono ?_); (case side1 => repeat (first | exact (Kd.S_reads' HO406.out).2.2 | (with_reducible refine Kd.C_alloc ?_ _) | (with_reducible refine Kd.C_drewN ?_ _) | (with_reducible refine Kd.C_drew ?_))); (case side2 => exact (Kd.S_reads' HO406.out).2.1); rintro e w92 ⟨rfl, hb⟩; refine ⟨_, rfl, ?_⟩; have n0_ := rb HO_0 hb; have n1_ := rb HO_7 hb; have n2_ := Aside0.mk (Kd.S_below (by (with_reducible repeat (first | apply Kd.S_alloc | apply Kd.S_drewN | apply Kd.S_drew)); exact HO406.out) hb); have n3_ := bb BK382 hb; have n4_ := bs HB hb; revert n0_ n1_ n2_ n3_ n4_; clear HO_0 HO_7 HO406 BK382 HB; intro HO_0 HO_7 HO406 BK382 HB; (try clear hb); have hcz93_0 := bc BK382 0; have hcz93_1 := bc BK382 1; have hfz93_0 := bf BK382 0; have hfz93_1 := bf BK382 1) | ((with_reducible refine gate_callee (f := 27) rfl ?_); refine gl 89 Tryz.func27 #[.slice Ao16 t383.length co16, .slice Ao91 t404.length co91, .agg #[.string t386, .string t387]] ?_; (with_reducible refine (r19_Chain.calls kj8 _ _ t383 _ _ t404 t386 t387 t409 _ ?side1 ?side2 ?side3 ?side4 A61.out).mono ?_); (case side1 => repeat (first | exact (Kd.R_reads' HO_0.out).2.2 | (with_reducible refine Kd.C_alloc ?_ _) | (with_reducible refine Kd.C_drewN ?_ _) | (with_reducible refine Kd.C_drew ?_))); (case side2 => exact (Kd.R_reads' HO_0.out).2.1); (case side3 => repeat (first | exact (Kd.S_reads' HO406.out).2.2 | (with_reducible refine Kd.C_alloc ?_ _) | (with_reducible refine Kd.C_drewN ?_ _) | (with_reducible refine Kd.C_drew ?_))); (case side4 => exact (Kd.S_reads' HO406.out).2.1); rintro e w94 ⟨v410, rfl, ho0, hb⟩; refine ⟨_, rfl, ?_⟩; have n0_ := rb HO_0 hb; have n1_ := Aside0.mk (Kd.R_elder' (ra HO_7) (Kd.R_base ho0) hb); have n2_ := Aside0.mk (Kd.S_elder' (by (with_reducible repeat (first | apply Kd.S_alloc | apply Kd.S_drewN | apply Kd.S_drew)); exact HO406.out) (Kd.R_base ho0) hb); have n3_ := Aside0.mk (Kd.R_lower (Kd.R_newB (Kd.R_new' ho0 (Kd.R_lt (ra HO_7))) (g := gb382) (o := .cells #[.string t386, .string t387] 24 (0, 0)) (bk BK382)) (bz HB)); have n4_ := bb BK382 hb; have n5_ := bs HB hb; revert n0_ n1_ n2_ n3_ n4_ n5_; clear HO_0 HO_7 HO406 BK382 HB; intro HO_0 HO_7 HO406 HO411 BK382 HB; (try clear hb); (try clear ho0); obtain ⟨Ao95, co95, eo95⟩ := Kd.R_slice HO_7.out; subst eo95; obtain ⟨Ao96, co96, eo96⟩ := Kd.R_slice HO411.out; subst eo96) | ((with_reducible refine gate_callee (f := 26) rfl ?_); refine gl 90 Tryz.func26 #[.slice Ao95 t392.length co95, .slice Ao96 t409.length co96] ?_; (with_reducible refine (r05_Same.calls kj8 _ _ t392 _ _ t409 false _ ?side1 ?side2 ?side3 ?side4 A62.out).mono ?_); (case side1 => repeat (first | exact (Kd.R_reads' HO_7.out).2.2 | (with_reducible refine Kd.C_alloc ?_ _) | (with_reducible refine Kd.C_drewN ?_ _) | (with_reducible refine Kd.C_drew ?_))); (case side2 => exact (Kd.R_reads' HO_7.out).2.1); (case side3 => repeat (first | exact (Kd.R_reads' HO411.out).2.2 | (with_reducible refine Kd.C_alloc ?_ _) | (with_reducible refine Kd.C_drewN ?_ _) | (with_reducible refine Kd.C_drew ?_))); (case side4 => exact (Kd.R_reads' HO411.out).2.1); rintro e w' ⟨rfl, ⟨nd, rfl⟩⟩; refine ⟨_, rfl, ?_⟩))
        go_ret
        exact ⟨by first | rfl | (simp [errW_none, errW_some] <;> rfl) | (simp [*, errW_none, errW_some] <;> rfl), ba HB⟩
     ·replace c32 := Bool.eq_false_iff.mpr c32
      subst c32
      replace H := jf H
      by_cases c97 : (t392.length : Int) = 0
      ·rw [if_pos c97] at H
       have c97b0 := beq_iff_eq.mpr c97
       have c97b1 := bne_eq_false_iff_eq.mpr c97
       clear c97
       by_cases c98 : t395 = 1
       ·rw [if_pos c98] at H
        have c98b0 := beq_iff_eq.mpr c98
        have c98b1 := bne_eq_false_iff_eq.mpr c98
        clear c98
        obtain ⟨t403, A99, H⟩ := bo H
        obtain rfl := Option.some.inj H
        have hcz100_0 := bc BK382 0
        have hcz100_1 := bc BK382 1
        have hfz100_0 := bf BK382 0
        have hfz100_1 := bf BK382 1
        go_wp2_with (first | ((with_reducible refine gate_callee (f := 23) rfl ?_); refine gl 57 Tryz.func23 #[.agg #[.string t386, .string t387]] ?_; (with_reducible refine (r05_May.calls kj8 t386 t387 false _ A31.out).mono ?_); rintro e w101 ⟨rfl, hb⟩; refine ⟨_, rfl, ?_⟩; have n0_ := rb HO_0 hb; have n1_ := rb HO_7 hb; have n2_ := bb BK382 hb; have n3_ := bs HB hb; revert n0_ n1_ n2_ n3_; clear HO_0 HO_7 BK382 HB; intro HO_0 HO_7 BK382 HB; (try clear hb); obtain ⟨Ao102, co102, eo102⟩ := Kd.R_slice HO_7.out; subst eo102) | (go_at_call 20; (with_reducible refine (w19_awake.calls  t403 _ A99.out).mono ?_); rintro e w103 ⟨rfl, hb⟩; have n0_ := rb HO_0 hb; have n1_ := rb HO_7 hb; have n2_ := bb BK382 hb; have n3_ := bs HB hb; revert n0_ n1_ n2_ n3_; clear HO_0 HO_7 BK382 HB; intro HO_0 HO_7 BK382 HB; (try clear hb)))
        go_ret
        exact ⟨by first | rfl | (simp [errW_none, errW_some] <;> rfl) | (simp [*, errW_none, errW_some] <;> rfl), ba HB⟩
       ·rw [if_neg c98] at H
        have c98b0 := beq_eq_false_iff_ne.mpr c98
        have c98b1 := bne_iff_ne.mpr c98
        obtain rfl := Option.some.inj H
        have hcz104_0 := bc BK382 0
        have hcz104_1 := bc BK382 1
        have hfz104_0 := bf BK382 0
        have hfz104_1 := bf BK382 1
        go_wp2_with (first | ((with_reducible refine gate_callee (f := 23) rfl ?_); refine gl 57 Tryz.func23 #[.agg #[.string t386, .string t387]] ?_; (with_reducible refine (r05_May.calls kj8 t386 t387 false _ A31.out).mono ?_); rintro e w105 ⟨rfl, hb⟩; refine ⟨_, rfl, ?_⟩; have n0_ := rb HO_0 hb; have n1_ := rb HO_7 hb; have n2_ := bb BK382 hb; have n3_ := bs HB hb; revert n0_ n1_ n2_ n3_; clear HO_0 HO_7 BK382 HB; intro HO_0 HO_7 BK382 HB; (try clear hb); obtain ⟨Ao106, co106, eo106⟩ := Kd.R_slice HO_7.out; subst eo106))
        go_ret
        exact ⟨by first | rfl | (simp [errW_none, errW_some] <;> rfl) | (simp [*, errW_none, errW_some] <;> rfl), ba HB⟩
      ·rw [if_neg c97] at H
       have c97b0 := beq_eq_false_iff_ne.mpr c97
       have c97b1 := bne_iff_ne.mpr c97
       have c97b2 : ¬ (t392 = []) := fun h_ => c97 (by rw [h_]; rfl)
       obtain rfl := Option.some.inj H
       have hcz107_0 := bc BK382 0
       have hcz107_1 := bc BK382 1
       have hfz107_0 := bf BK382 0
       have hfz107_1 := bf BK382 1
       go_wp2_with (first | ((with_reducible refine gate_callee (f := 23) rfl ?_); refine gl 57 Tryz.func23 #[.agg #[.string t386, .string t387]] ?_; (with_reducible refine (r05_May.calls kj8 t386 t387 false _ A31.out).mono ?_); rintro e w108 ⟨rfl, hb⟩; refine ⟨_, rfl, ?_⟩; have n0_ := rb HO_0 hb; have n1_ := rb HO_7 hb; have n2_ := bb BK382 hb; have n3_ := bs HB hb; revert n0_ n1_ n2_ n3_; clear HO_0 HO_7 BK382 HB; intro HO_0 HO_7 BK382 HB; (try clear hb); obtain ⟨Ao109, co109, eo109⟩ := Kd.R_slice HO_7.out; subst eo109))
       go_ret
       exact ⟨by first | rfl | (simp [errW_none, errW_some] <;> rfl) | (simp [*, errW_none, errW_some] <;> rfl), ba HB⟩
 ·replace c8 := Bool.eq_false_iff.mpr c8
  subst c8
  replace H := jf H
  by_cases c110 : (t388.length : Int) = 0
  ·rw [if_pos c110] at H
   have c110b0 := beq_iff_eq.mpr c110
   have c110b1 := bne_eq_false_iff_eq.mpr c110
   clear c110
   by_cases c111 : t389 = 1
   ·rw [if_pos c111] at H
    have c111b0 := beq_iff_eq.mpr c111
    have c111b1 := bne_eq_false_iff_eq.mpr c111
    clear c111
    by_cases c112 : (t392.length : Int) = 0
    ·rw [if_pos c112] at H
     have c112b0 := beq_iff_eq.mpr c112
     have c112b1 := bne_eq_false_iff_eq.mpr c112
     clear c112
     by_cases c113 : t395 = 1
     ·rw [if_pos c113] at H
      have c113b0 := beq_iff_eq.mpr c113
      have c113b1 := bne_eq_false_iff_eq.mpr c113
      clear c113
      obtain ⟨t397, A114, H⟩ := bo H
      obtain rfl := Option.some.inj H
      go_enter Tryz.func3, Tryz.ntmps3
      try go_wp2_with (first | ((with_reducible refine gate_dst (N := 3) rfl ?_); (try (refine gate_guard (by rfl) ?_; dsimp only)); refine box_event ?hg (N := 3) ?hd (cs := #[.string a1_0, .string a1_1]) (t := 24) ?hr ?_; (case hd => rfl); (case hg => rfl); (case hr => first | (go_simp; done) | (go_simp; rfl)); intro gb382 hg w115 hbox hb; have n0_ := bs HB hb; have n1_ := Aside0.mk (hbox); have n2_ := gz hg HB; have n3_ := gz hg HB; revert n0_ n1_ n2_ n3_; clear HB; intro HB BK382 GW382 GE382; clear hb hbox hg))
      have n0_ := Aside0.mk (blk_drew BK382.out)
      have n1_ := Aside0.mk (below_drew1 HB.out)
      revert n0_ n1_
      clear BK382 HB
      intro BK382 HB
      refine start_ (n := 6) (S := fun w' => w'.cell? ⟨gb382, 0, none⟩ = some (.string a1_0) ∧ w'.cell? ⟨gb382, 1, none⟩ = some (.string a1_1)) (ds := [5]) #[false, false, false, false, false, false] (by kernel_rfl) rfl rfl ⟨bc BK382 0, bc BK382 1⟩ (fun hHeld => ?_)
      generalize w115.drew = w116 at BK382 HB hHeld ⊢
      refine pu 0 10 ?_
      refine tk 2 12 ?_
      refine oq 1 (some 11) fun K hK => ?_
      refine gs Tryz.func15 #[.slice A0 l0.length c0] ?_
      with_reducible refine (w18_Few.calls k _ _ l0 t383 _ ?side1 ?side2 A3.out).mono ?_
      (case side1 => repeat (first | exact (Kd.C_below HR0.out HB.out) | (with_reducible refine Kd.C_alloc ?_ _) | (with_reducible refine Kd.C_drewN ?_ _) | (with_reducible refine Kd.C_drew ?_)))
      (case side2 => exact HC0.out)
      rintro e w117 ⟨v384, rfl, ho0, hb⟩
      refine ⟨_, rfl, ?_⟩
      have n0_ := Aside0.mk (Kd.R_lower ho0 (bz HB))
      have n1_ := bb BK382 hb
      have n2_ := bs HB hb
      revert n0_ n1_ n2_
      clear BK382 HB
      intro HO385 BK382 HB
      try clear hb
      (try clear ho0)
      refine hK.out _ _ ⟨bc BK382 0, bc BK382 1⟩ (fun hHeld => ?_)
      clear hK K
      refine nm ?_
      refine oq 3 (some 13) fun K hK => ?_
      refine gs Tryz.func16 #[.agg #[.string a1_0, .string a1_1]] ?_
      with_reducible refine (w05_One.calls a1_0 a1_1 t386 t387 _ A4.out).mono ?_
      rintro e w118 ⟨rfl, hb⟩
      refine ⟨_, rfl, ?_⟩
      have n0_ := rb HO385 hb
      have n1_ := bb BK382 hb
      have n2_ := bs HB hb
      revert n0_ n1_ n2_
      clear HO385 BK382 HB
      intro HO385 BK382 HB
      try clear hb
      refine hK.out _ _ ⟨bc BK382 0, bc BK382 1⟩ (fun hHeld => ?_)
      clear hK K
      refine nm ?_
      refine pu 4 0 ?_
      refine lq 5 none fun K hK => ?_
      have hs119 := bc BK382 0
      have hfs119 := bf BK382 0
      have hs120 := bc BK382 1
      have hfs120 := bf BK382 1
      refine sk ?_
      refine hK.out _ _ ?_
      clear hK K
      refine dq ?_
      obtain ⟨Ao121, co121, eo121⟩ := Kd.R_slice HO385.out
      subst eo121
      try go_wp2_with (first | ((with_reducible refine gate_callee (f := 17) rfl ?_); refine gl 16 Tryz.func17 #[.slice Ao121 t383.length co121] ?_; (with_reducible refine (why_Depths.calls _ _ t383 t388 t389 _ ?side1 ?side2 A5.out).mono ?_); (case side1 => refine (Kd.R_reads' (e := 49) (base := w.heap.size) (ok := fun k_ => True) (n := t383.length) (c := co121) ?_).2.2; exact (by (with_reducible repeat (first | apply Kd.R_alloc | apply Kd.R_drewN | apply Kd.R_drew)); exact (Kd.R_mono (Kd.R_far (p := ⟨gb382, 1, none⟩) (Kd.R_far (p := ⟨gb382, 0, none⟩) (Kd.R_types HO385.out BK382.out (by decide)) (fun _ hk => hk.2) (.string t386)) (fun _ hk => hk.2) (.string t387)) (fun _ h_ => h_.1)))); (case side2 => exact (Kd.R_reads' HO385.out).2.1); rintro e w122 ⟨v390, rfl, ho0, hb⟩; refine ⟨_, rfl, ?_⟩; have n0_ := Aside0.mk (Kd.R_below (by (with_reducible repeat (first | apply Kd.R_alloc | apply Kd.R_drewN | apply Kd.R_drew)); exact (Kd.R_mono (Kd.R_far (p := ⟨gb382, 1, none⟩) (Kd.R_far (p := ⟨gb382, 0, none⟩) (Kd.R_types HO385.out BK382.out (by decide)) (fun _ hk => hk.2) (.string t386)) (fun _ hk => hk.2) (.string t387)) (fun _ h_ => h_.1))) hb); have n1_ := Aside0.mk (Kd.R_lower ho0 (bz HB)); have n2_ := Aside0.mk (blk_below (g := gb382) (o := .cells #[.string t386, .string t387] 24 (0, 0)) (by (with_reducible repeat (first | refine blk_drewN ?_ _ | refine blk_drew ?_ | refine blk_alloc ?_ _)); refine blk_put (cs := #[.string t386, .string a1_1]) ?_ 1 _ rfl; (with_reducible repeat (first | refine blk_drewN ?_ _ | refine blk_drew ?_ | refine blk_alloc ?_ _)); refine blk_put (cs := #[.string a1_0, .string a1_1]) ?_ 0 _ rfl; (with_reducible repeat (first | refine blk_drewN ?_ _ | refine blk_drew ?_ | refine blk_alloc ?_ _)); exact BK382.out) hb); have n3_ := bs HB hb; revert n0_ n1_ n2_ n3_; clear HO385 BK382 HB; intro HO385 HO391 BK382 HB; (try clear hb); (try clear ho0); have hcz123_0 := bc BK382 0; have hcz123_1 := bc BK382 1; have hfz123_0 := bf BK382 0; have hfz123_1 := bf BK382 1) | ((with_reducible refine gate_callee (f := 18) rfl ?_); refine gl 22 Tryz.func18 #[.slice Ao121 t383.length co121, .agg #[.string t386, .string t387]] ?_; (with_reducible refine (why_Chain.calls _ _ t383 t386 t387 t392 t395 _ ?side1 ?side2 A6.out).mono ?_); (case side1 => repeat (first | exact (Kd.R_reads' HO385.out).2.2 | (with_reducible refine Kd.C_alloc ?_ _) | (with_reducible refine Kd.C_drewN ?_ _) | (with_reducible refine Kd.C_drew ?_))); (case side2 => exact (Kd.R_reads' HO385.out).2.1); rintro e w124 ⟨v393, rfl, ho0, hb⟩; refine ⟨_, rfl, ?_⟩; have n0_ := rb HO385 hb; have n1_ := rb HO391 hb; have n2_ := Aside0.mk (Kd.R_lower (Kd.R_newB ho0 (g := gb382) (o := .cells #[.string t386, .string t387] 24 (0, 0)) (bk BK382)) (bz HB)); have n3_ := bb BK382 hb; have n4_ := bs HB hb; revert n0_ n1_ n2_ n3_ n4_; clear HO385 HO391 BK382 HB; intro HO385 HO391 HO394 BK382 HB; (try clear hb); (try clear ho0)) | ((with_reducible refine gate_callee (f := 19) rfl ?_); refine gl 26 Tryz.func19 #[.slice Ao121 t383.length co121] ?_; (with_reducible refine (r18_May.calls k _ _ t383 false _ ?side1 ?side2 A7.out).mono ?_); (case side1 => repeat (first | exact (Kd.R_reads' HO385.out).2.2 | (with_reducible refine Kd.C_alloc ?_ _) | (with_reducible refine Kd.C_drewN ?_ _) | (with_reducible refine Kd.C_drew ?_))); (case side2 => exact (Kd.R_reads' HO385.out).2.1); rintro e w125 ⟨rfl, hb⟩; refine ⟨_, rfl, ?_⟩; have n0_ := rb HO385 hb; have n1_ := rb HO391 hb; have n2_ := rb HO394 hb; have n3_ := bb BK382 hb; have n4_ := bs HB hb; revert n0_ n1_ n2_ n3_ n4_; clear HO385 HO391 HO394 BK382 HB; intro HO385 HO391 HO394 BK382 HB; (try clear hb); obtain ⟨Ao126, co126, eo126⟩ := Kd.R_slice HO391.out; subst eo126; obtain ⟨Ao127, co127, eo127⟩ := Kd.R_slice HO394.out; subst eo127) | (go_at_call 20; (with_reducible refine (w19_awake.calls  t397 _ A114.out).mono ?_); rintro e w128 ⟨rfl, hb⟩; have n0_ := rb HO385 hb; have n1_ := rb HO391 hb; have n2_ := rb HO394 hb; have n3_ := bb BK382 hb; have n4_ := bs HB hb; revert n0_ n1_ n2_ n3_ n4_; clear HO385 HO391 HO394 BK382 HB; intro HO385 HO391 HO394 BK382 HB; (try clear hb)))
      go_ret
      exact ⟨by first | rfl | (simp [errW_none, errW_some] <;> rfl) | (simp [*, errW_none, errW_some] <;> rfl), ba HB⟩
     ·rw [if_neg c113] at H
      have c113b0 := beq_eq_false_iff_ne.mpr c113
      have c113b1 := bne_iff_ne.mpr c113
      obtain rfl := Option.some.inj H
      go_enter Tryz.func3, Tryz.ntmps3
      try go_wp2_with (first | ((with_reducible refine gate_dst (N := 3) rfl ?_); (try (refine gate_guard (by rfl) ?_; dsimp only)); refine box_event ?hg (N := 3) ?hd (cs := #[.string a1_0, .string a1_1]) (t := 24) ?hr ?_; (case hd => rfl); (case hg => rfl); (case hr => first | (go_simp; done) | (go_simp; rfl)); intro gb382 hg w129 hbox hb; have n0_ := bs HB hb; have n1_ := Aside0.mk (hbox); have n2_ := gz hg HB; have n3_ := gz hg HB; revert n0_ n1_ n2_ n3_; clear HB; intro HB BK382 GW382 GE382; clear hb hbox hg))
      have n0_ := Aside0.mk (blk_drew BK382.out)
      have n1_ := Aside0.mk (below_drew1 HB.out)
      revert n0_ n1_
      clear BK382 HB
      intro BK382 HB
      refine start_ (n := 6) (S := fun w' => w'.cell? ⟨gb382, 0, none⟩ = some (.string a1_0) ∧ w'.cell? ⟨gb382, 1, none⟩ = some (.string a1_1)) (ds := [5]) #[false, false, false, false, false, false] (by kernel_rfl) rfl rfl ⟨bc BK382 0, bc BK382 1⟩ (fun hHeld => ?_)
      generalize w129.drew = w130 at BK382 HB hHeld ⊢
      refine pu 0 10 ?_
      refine tk 2 12 ?_
      refine oq 1 (some 11) fun K hK => ?_
      refine gs Tryz.func15 #[.slice A0 l0.length c0] ?_
      with_reducible refine (w18_Few.calls k _ _ l0 t383 _ ?side1 ?side2 A3.out).mono ?_
      (case side1 => repeat (first | exact (Kd.C_below HR0.out HB.out) | (with_reducible refine Kd.C_alloc ?_ _) | (with_reducible refine Kd.C_drewN ?_ _) | (with_reducible refine Kd.C_drew ?_)))
      (case side2 => exact HC0.out)
      rintro e w131 ⟨v384, rfl, ho0, hb⟩
      refine ⟨_, rfl, ?_⟩
      have n0_ := Aside0.mk (Kd.R_lower ho0 (bz HB))
      have n1_ := bb BK382 hb
      have n2_ := bs HB hb
      revert n0_ n1_ n2_
      clear BK382 HB
      intro HO385 BK382 HB
      try clear hb
      (try clear ho0)
      refine hK.out _ _ ⟨bc BK382 0, bc BK382 1⟩ (fun hHeld => ?_)
      clear hK K
      refine nm ?_
      refine oq 3 (some 13) fun K hK => ?_
      refine gs Tryz.func16 #[.agg #[.string a1_0, .string a1_1]] ?_
      with_reducible refine (w05_One.calls a1_0 a1_1 t386 t387 _ A4.out).mono ?_
      rintro e w132 ⟨rfl, hb⟩
      refine ⟨_, rfl, ?_⟩
      have n0_ := rb HO385 hb
      have n1_ := bb BK382 hb
      have n2_ := bs HB hb
      revert n0_ n1_ n2_
      clear HO385 BK382 HB
      intro HO385 BK382 HB
      try clear hb
      refine hK.out _ _ ⟨bc BK382 0, bc BK382 1⟩ (fun hHeld => ?_)
      clear hK K
      refine nm ?_
      refine pu 4 0 ?_
      refine lq 5 none fun K hK => ?_
      have hs133 := bc BK382 0
      have hfs133 := bf BK382 0
      have hs134 := bc BK382 1
      have hfs134 := bf BK382 1
      refine sk ?_
      refine hK.out _ _ ?_
      clear hK K
      refine dq ?_
      obtain ⟨Ao135, co135, eo135⟩ := Kd.R_slice HO385.out
      subst eo135
      try go_wp2_with (first | ((with_reducible refine gate_callee (f := 17) rfl ?_); refine gl 16 Tryz.func17 #[.slice Ao135 t383.length co135] ?_; (with_reducible refine (why_Depths.calls _ _ t383 t388 t389 _ ?side1 ?side2 A5.out).mono ?_); (case side1 => refine (Kd.R_reads' (e := 49) (base := w.heap.size) (ok := fun k_ => True) (n := t383.length) (c := co135) ?_).2.2; exact (by (with_reducible repeat (first | apply Kd.R_alloc | apply Kd.R_drewN | apply Kd.R_drew)); exact (Kd.R_mono (Kd.R_far (p := ⟨gb382, 1, none⟩) (Kd.R_far (p := ⟨gb382, 0, none⟩) (Kd.R_types HO385.out BK382.out (by decide)) (fun _ hk => hk.2) (.string t386)) (fun _ hk => hk.2) (.string t387)) (fun _ h_ => h_.1)))); (case side2 => exact (Kd.R_reads' HO385.out).2.1); rintro e w136 ⟨v390, rfl, ho0, hb⟩; refine ⟨_, rfl, ?_⟩; have n0_ := Aside0.mk (Kd.R_below (by (with_reducible repeat (first | apply Kd.R_alloc | apply Kd.R_drewN | apply Kd.R_drew)); exact (Kd.R_mono (Kd.R_far (p := ⟨gb382, 1, none⟩) (Kd.R_far (p := ⟨gb382, 0, none⟩) (Kd.R_types HO385.out BK382.out (by decide)) (fun _ hk => hk.2) (.string t386)) (fun _ hk => hk.2) (.string t387)) (fun _ h_ => h_.1))) hb); have n1_ := Aside0.mk (Kd.R_lower ho0 (bz HB)); have n2_ := Aside0.mk (blk_below (g := gb382) (o := .cells #[.string t386, .string t387] 24 (0, 0)) (by (with_reducible repeat (first | refine blk_drewN ?_ _ | refine blk_drew ?_ | refine blk_alloc ?_ _)); refine blk_put (cs := #[.string t386, .string a1_1]) ?_ 1 _ rfl; (with_reducible repeat (first | refine blk_drewN ?_ _ | refine blk_drew ?_ | refine blk_alloc ?_ _)); refine blk_put (cs := #[.string a1_0, .string a1_1]) ?_ 0 _ rfl; (with_reducible repeat (first | refine blk_drewN ?_ _ | refine blk_drew ?_ | refine blk_alloc ?_ _)); exact BK382.out) hb); have n3_ := bs HB hb; revert n0_ n1_ n2_ n3_; clear HO385 BK382 HB; intro HO385 HO391 BK382 HB; (try clear hb); (try clear ho0); have hcz137_0 := bc BK382 0; have hcz137_1 := bc BK382 1; have hfz137_0 := bf BK382 0; have hfz137_1 := bf BK382 1) | ((with_reducible refine gate_callee (f := 18) rfl ?_); refine gl 22 Tryz.func18 #[.slice Ao135 t383.length co135, .agg #[.string t386, .string t387]] ?_; (with_reducible refine (why_Chain.calls _ _ t383 t386 t387 t392 t395 _ ?side1 ?side2 A6.out).mono ?_); (case side1 => repeat (first | exact (Kd.R_reads' HO385.out).2.2 | (with_reducible refine Kd.C_alloc ?_ _) | (with_reducible refine Kd.C_drewN ?_ _) | (with_reducible refine Kd.C_drew ?_))); (case side2 => exact (Kd.R_reads' HO385.out).2.1); rintro e w138 ⟨v393, rfl, ho0, hb⟩; refine ⟨_, rfl, ?_⟩; have n0_ := rb HO385 hb; have n1_ := rb HO391 hb; have n2_ := Aside0.mk (Kd.R_lower (Kd.R_newB ho0 (g := gb382) (o := .cells #[.string t386, .string t387] 24 (0, 0)) (bk BK382)) (bz HB)); have n3_ := bb BK382 hb; have n4_ := bs HB hb; revert n0_ n1_ n2_ n3_ n4_; clear HO385 HO391 BK382 HB; intro HO385 HO391 HO394 BK382 HB; (try clear hb); (try clear ho0)) | ((with_reducible refine gate_callee (f := 19) rfl ?_); refine gl 26 Tryz.func19 #[.slice Ao135 t383.length co135] ?_; (with_reducible refine (r18_May.calls k _ _ t383 false _ ?side1 ?side2 A7.out).mono ?_); (case side1 => repeat (first | exact (Kd.R_reads' HO385.out).2.2 | (with_reducible refine Kd.C_alloc ?_ _) | (with_reducible refine Kd.C_drewN ?_ _) | (with_reducible refine Kd.C_drew ?_))); (case side2 => exact (Kd.R_reads' HO385.out).2.1); rintro e w139 ⟨rfl, hb⟩; refine ⟨_, rfl, ?_⟩; have n0_ := rb HO385 hb; have n1_ := rb HO391 hb; have n2_ := rb HO394 hb; have n3_ := bb BK382 hb; have n4_ := bs HB hb; revert n0_ n1_ n2_ n3_ n4_; clear HO385 HO391 HO394 BK382 HB; intro HO385 HO391 HO394 BK382 HB; (try clear hb); obtain ⟨Ao140, co140, eo140⟩ := Kd.R_slice HO391.out; subst eo140; obtain ⟨Ao141, co141, eo141⟩ := Kd.R_slice HO394.out; subst eo141))
      go_ret
      exact ⟨by first | rfl | (simp [errW_none, errW_some] <;> rfl) | (simp [*, errW_none, errW_some] <;> rfl), ba HB⟩
    ·rw [if_neg c112] at H
     have c112b0 := beq_eq_false_iff_ne.mpr c112
     have c112b1 := bne_iff_ne.mpr c112
     have c112b2 : ¬ (t392 = []) := fun h_ => c112 (by rw [h_]; rfl)
     obtain rfl := Option.some.inj H
     go_enter Tryz.func3, Tryz.ntmps3
     try go_wp2_with (first | ((with_reducible refine gate_dst (N := 3) rfl ?_); (try (refine gate_guard (by rfl) ?_; dsimp only)); refine box_event ?hg (N := 3) ?hd (cs := #[.string a1_0, .string a1_1]) (t := 24) ?hr ?_; (case hd => rfl); (case hg => rfl); (case hr => first | (go_simp; done) | (go_simp; rfl)); intro gb382 hg w142 hbox hb; have n0_ := bs HB hb; have n1_ := Aside0.mk (hbox); have n2_ := gz hg HB; have n3_ := gz hg HB; revert n0_ n1_ n2_ n3_; clear HB; intro HB BK382 GW382 GE382; clear hb hbox hg))
     have n0_ := Aside0.mk (blk_drew BK382.out)
     have n1_ := Aside0.mk (below_drew1 HB.out)
     revert n0_ n1_
     clear BK382 HB
     intro BK382 HB
     refine start_ (n := 6) (S := fun w' => w'.cell? ⟨gb382, 0, none⟩ = some (.string a1_0) ∧ w'.cell? ⟨gb382, 1, none⟩ = some (.string a1_1)) (ds := [5]) #[false, false, false, false, false, false] (by kernel_rfl) rfl rfl ⟨bc BK382 0, bc BK382 1⟩ (fun hHeld => ?_)
     generalize w142.drew = w143 at BK382 HB hHeld ⊢
     refine pu 0 10 ?_
     refine tk 2 12 ?_
     refine oq 1 (some 11) fun K hK => ?_
     refine gs Tryz.func15 #[.slice A0 l0.length c0] ?_
     with_reducible refine (w18_Few.calls k _ _ l0 t383 _ ?side1 ?side2 A3.out).mono ?_
     (case side1 => repeat (first | exact (Kd.C_below HR0.out HB.out) | (with_reducible refine Kd.C_alloc ?_ _) | (with_reducible refine Kd.C_drewN ?_ _) | (with_reducible refine Kd.C_drew ?_)))
     (case side2 => exact HC0.out)
     rintro e w144 ⟨v384, rfl, ho0, hb⟩
     refine ⟨_, rfl, ?_⟩
     have n0_ := Aside0.mk (Kd.R_lower ho0 (bz HB))
     have n1_ := bb BK382 hb
     have n2_ := bs HB hb
     revert n0_ n1_ n2_
     clear BK382 HB
     intro HO385 BK382 HB
     try clear hb
     (try clear ho0)
     refine hK.out _ _ ⟨bc BK382 0, bc BK382 1⟩ (fun hHeld => ?_)
     clear hK K
     refine nm ?_
     refine oq 3 (some 13) fun K hK => ?_
     refine gs Tryz.func16 #[.agg #[.string a1_0, .string a1_1]] ?_
     with_reducible refine (w05_One.calls a1_0 a1_1 t386 t387 _ A4.out).mono ?_
     rintro e w145 ⟨rfl, hb⟩
     refine ⟨_, rfl, ?_⟩
     have n0_ := rb HO385 hb
     have n1_ := bb BK382 hb
     have n2_ := bs HB hb
     revert n0_ n1_ n2_
     clear HO385 BK382 HB
     intro HO385 BK382 HB
     try clear hb
     refine hK.out _ _ ⟨bc BK382 0, bc BK382 1⟩ (fun hHeld => ?_)
     clear hK K
     refine nm ?_
     refine pu 4 0 ?_
     refine lq 5 none fun K hK => ?_
     have hs146 := bc BK382 0
     have hfs146 := bf BK382 0
     have hs147 := bc BK382 1
     have hfs147 := bf BK382 1
     refine sk ?_
     refine hK.out _ _ ?_
     clear hK K
     refine dq ?_
     obtain ⟨Ao148, co148, eo148⟩ := Kd.R_slice HO385.out
     subst eo148
     try go_wp2_with (first | ((with_reducible refine gate_callee (f := 17) rfl ?_); refine gl 16 Tryz.func17 #[.slice Ao148 t383.length co148] ?_; (with_reducible refine (why_Depths.calls _ _ t383 t388 t389 _ ?side1 ?side2 A5.out).mono ?_); (case side1 => refine (Kd.R_reads' (e := 49) (base := w.heap.size) (ok := fun k_ => True) (n := t383.length) (c := co148) ?_).2.2; exact (by (with_reducible repeat (first | apply Kd.R_alloc | apply Kd.R_drewN | apply Kd.R_drew)); exact (Kd.R_mono (Kd.R_far (p := ⟨gb382, 1, none⟩) (Kd.R_far (p := ⟨gb382, 0, none⟩) (Kd.R_types HO385.out BK382.out (by decide)) (fun _ hk => hk.2) (.string t386)) (fun _ hk => hk.2) (.string t387)) (fun _ h_ => h_.1)))); (case side2 => exact (Kd.R_reads' HO385.out).2.1); rintro e w149 ⟨v390, rfl, ho0, hb⟩; refine ⟨_, rfl, ?_⟩; have n0_ := Aside0.mk (Kd.R_below (by (with_reducible repeat (first | apply Kd.R_alloc | apply Kd.R_drewN | apply Kd.R_drew)); exact (Kd.R_mono (Kd.R_far (p := ⟨gb382, 1, none⟩) (Kd.R_far (p := ⟨gb382, 0, none⟩) (Kd.R_types HO385.out BK382.out (by decide)) (fun _ hk => hk.2) (.string t386)) (fun _ hk => hk.2) (.string t387)) (fun _ h_ => h_.1))) hb); have n1_ := Aside0.mk (Kd.R_lower ho0 (bz HB)); have n2_ := Aside0.mk (blk_below (g := gb382) (o := .cells #[.string t386, .string t387] 24 (0, 0)) (by (with_reducible repeat (first | refine blk_drewN ?_ _ | refine blk_drew ?_ | refine blk_alloc ?_ _)); refine blk_put (cs := #[.string t386, .string a1_1]) ?_ 1 _ rfl; (with_reducible repeat (first | refine blk_drewN ?_ _ | refine blk_drew ?_ | refine blk_alloc ?_ _)); refine blk_put (cs := #[.string a1_0, .string a1_1]) ?_ 0 _ rfl; (with_reducible repeat (first | refine blk_drewN ?_ _ | refine blk_drew ?_ | refine blk_alloc ?_ _)); exact BK382.out) hb); have n3_ := bs HB hb; revert n0_ n1_ n2_ n3_; clear HO385 BK382 HB; intro HO385 HO391 BK382 HB; (try clear hb); (try clear ho0); have hcz150_0 := bc BK382 0; have hcz150_1 := bc BK382 1; have hfz150_0 := bf BK382 0; have hfz150_1 := bf BK382 1) | ((with_reducible refine gate_callee (f := 18) rfl ?_); refine gl 22 Tryz.func18 #[.slice Ao148 t383.length co148, .agg #[.string t386, .string t387]] ?_; (with_reducible refine (why_Chain.calls _ _ t383 t386 t387 t392 t395 _ ?side1 ?side2 A6.out).mono ?_); (case side1 => repeat (first | exact (Kd.R_reads' HO385.out).2.2 | (with_reducible refine Kd.C_alloc ?_ _) | (with_reducible refine Kd.C_drewN ?_ _) | (with_reducible refine Kd.C_drew ?_))); (case side2 => exact (Kd.R_reads' HO385.out).2.1); rintro e w151 ⟨v393, rfl, ho0, hb⟩; refine ⟨_, rfl, ?_⟩; have n0_ := rb HO385 hb; have n1_ := rb HO391 hb; have n2_ := Aside0.mk (Kd.R_lower (Kd.R_newB ho0 (g := gb382) (o := .cells #[.string t386, .string t387] 24 (0, 0)) (bk BK382)) (bz HB)); have n3_ := bb BK382 hb; have n4_ := bs HB hb; revert n0_ n1_ n2_ n3_ n4_; clear HO385 HO391 BK382 HB; intro HO385 HO391 HO394 BK382 HB; (try clear hb); (try clear ho0)) | ((with_reducible refine gate_callee (f := 19) rfl ?_); refine gl 26 Tryz.func19 #[.slice Ao148 t383.length co148] ?_; (with_reducible refine (r18_May.calls k _ _ t383 false _ ?side1 ?side2 A7.out).mono ?_); (case side1 => repeat (first | exact (Kd.R_reads' HO385.out).2.2 | (with_reducible refine Kd.C_alloc ?_ _) | (with_reducible refine Kd.C_drewN ?_ _) | (with_reducible refine Kd.C_drew ?_))); (case side2 => exact (Kd.R_reads' HO385.out).2.1); rintro e w152 ⟨rfl, hb⟩; refine ⟨_, rfl, ?_⟩; have n0_ := rb HO385 hb; have n1_ := rb HO391 hb; have n2_ := rb HO394 hb; have n3_ := bb BK382 hb; have n4_ := bs HB hb; revert n0_ n1_ n2_ n3_ n4_; clear HO385 HO391 HO394 BK382 HB; intro HO385 HO391 HO394 BK382 HB; (try clear hb); obtain ⟨Ao153, co153, eo153⟩ := Kd.R_slice HO391.out; subst eo153; obtain ⟨Ao154, co154, eo154⟩ := Kd.R_slice HO394.out; subst eo154))
     go_ret
     exact ⟨by first | rfl | (simp [errW_none, errW_some] <;> rfl) | (simp [*, errW_none, errW_some] <;> rfl), ba HB⟩
   ·rw [if_neg c111] at H
    have c111b0 := beq_eq_false_iff_ne.mpr c111
    have c111b1 := bne_iff_ne.mpr c111
    obtain rfl := Option.some.inj H
    go_enter Tryz.func3, Tryz.ntmps3
    try go_wp2_with (first | ((with_reducible refine gate_dst (N := 3) rfl ?_); (try (refine gate_guard (by rfl) ?_; dsimp only)); refine box_event ?hg (N := 3) ?hd (cs := #[.string a1_0, .string a1_1]) (t := 24) ?hr ?_; (case hd => rfl); (case hg => rfl); (case hr => first | (go_simp; done) | (go_simp; rfl)); intro gb382 hg w155 hbox hb; have n0_ := bs HB hb; have n1_ := Aside0.mk (hbox); have n2_ := gz hg HB; have n3_ := gz hg HB; revert n0_ n1_ n2_ n3_; clear HB; intro HB BK382 GW382 GE382; clear hb hbox hg))
    have n0_ := Aside0.mk (blk_drew BK382.out)
    have n1_ := Aside0.mk (below_drew1 HB.out)
    revert n0_ n1_
    clear BK382 HB
    intro BK382 HB
    refine start_ (n := 6) (S := fun w' => w'.cell? ⟨gb382, 0, none⟩ = some (.string a1_0) ∧ w'.cell? ⟨gb382, 1, none⟩ = some (.string a1_1)) (ds := [5]) #[false, false, false, false, false, false] (by kernel_rfl) rfl rfl ⟨bc BK382 0, bc BK382 1⟩ (fun hHeld => ?_)
    generalize w155.drew = w156 at BK382 HB hHeld ⊢
    refine pu 0 10 ?_
    refine tk 2 12 ?_
    refine oq 1 (some 11) fun K hK => ?_
    refine gs Tryz.func15 #[.slice A0 l0.length c0] ?_
    with_reducible refine (w18_Few.calls k _ _ l0 t383 _ ?side1 ?side2 A3.out).mono ?_
    (case side1 => repeat (first | exact (Kd.C_below HR0.out HB.out) | (with_reducible refine Kd.C_alloc ?_ _) | (with_reducible refine Kd.C_drewN ?_ _) | (with_reducible refine Kd.C_drew ?_)))
    (case side2 => exact HC0.out)
    rintro e w157 ⟨v384, rfl, ho0, hb⟩
    refine ⟨_, rfl, ?_⟩
    have n0_ := Aside0.mk (Kd.R_lower ho0 (bz HB))
    have n1_ := bb BK382 hb
    have n2_ := bs HB hb
    revert n0_ n1_ n2_
    clear BK382 HB
    intro HO385 BK382 HB
    try clear hb
    (try clear ho0)
    refine hK.out _ _ ⟨bc BK382 0, bc BK382 1⟩ (fun hHeld => ?_)
    clear hK K
    refine nm ?_
    refine oq 3 (some 13) fun K hK => ?_
    refine gs Tryz.func16 #[.agg #[.string a1_0, .string a1_1]] ?_
    with_reducible refine (w05_One.calls a1_0 a1_1 t386 t387 _ A4.out).mono ?_
    rintro e w158 ⟨rfl, hb⟩
    refine ⟨_, rfl, ?_⟩
    have n0_ := rb HO385 hb
    have n1_ := bb BK382 hb
    have n2_ := bs HB hb
    revert n0_ n1_ n2_
    clear HO385 BK382 HB
    intro HO385 BK382 HB
    try clear hb
    refine hK.out _ _ ⟨bc BK382 0, bc BK382 1⟩ (fun hHeld => ?_)
    clear hK K
    refine nm ?_
    refine pu 4 0 ?_
    refine lq 5 none fun K hK => ?_
    have hs159 := bc BK382 0
    have hfs159 := bf BK382 0
    have hs160 := bc BK382 1
    have hfs160 := bf BK382 1
    refine sk ?_
    refine hK.out _ _ ?_
    clear hK K
    refine dq ?_
    obtain ⟨Ao161, co161, eo161⟩ := Kd.R_slice HO385.out
    subst eo161
    try go_wp2_with (first | ((with_reducible refine gate_callee (f := 17) rfl ?_); refine gl 16 Tryz.func17 #[.slice Ao161 t383.length co161] ?_; (with_reducible refine (why_Depths.calls _ _ t383 t388 t389 _ ?side1 ?side2 A5.out).mono ?_); (case side1 => refine (Kd.R_reads' (e := 49) (base := w.heap.size) (ok := fun k_ => True) (n := t383.length) (c := co161) ?_).2.2; exact (by (with_reducible repeat (first | apply Kd.R_alloc | apply Kd.R_drewN | apply Kd.R_drew)); exact (Kd.R_mono (Kd.R_far (p := ⟨gb382, 1, none⟩) (Kd.R_far (p := ⟨gb382, 0, none⟩) (Kd.R_types HO385.out BK382.out (by decide)) (fun _ hk => hk.2) (.string t386)) (fun _ hk => hk.2) (.string t387)) (fun _ h_ => h_.1)))); (case side2 => exact (Kd.R_reads' HO385.out).2.1); rintro e w162 ⟨v390, rfl, ho0, hb⟩; refine ⟨_, rfl, ?_⟩; have n0_ := Aside0.mk (Kd.R_below (by (with_reducible repeat (first | apply Kd.R_alloc | apply Kd.R_drewN | apply Kd.R_drew)); exact (Kd.R_mono (Kd.R_far (p := ⟨gb382, 1, none⟩) (Kd.R_far (p := ⟨gb382, 0, none⟩) (Kd.R_types HO385.out BK382.out (by decide)) (fun _ hk => hk.2) (.string t386)) (fun _ hk => hk.2) (.string t387)) (fun _ h_ => h_.1))) hb); have n1_ := Aside0.mk (Kd.R_lower ho0 (bz HB)); have n2_ := Aside0.mk (blk_below (g := gb382) (o := .cells #[.string t386, .string t387] 24 (0, 0)) (by (with_reducible repeat (first | refine blk_drewN ?_ _ | refine blk_drew ?_ | refine blk_alloc ?_ _)); refine blk_put (cs := #[.string t386, .string a1_1]) ?_ 1 _ rfl; (with_reducible repeat (first | refine blk_drewN ?_ _ | refine blk_drew ?_ | refine blk_alloc ?_ _)); refine blk_put (cs := #[.string a1_0, .string a1_1]) ?_ 0 _ rfl; (with_reducible repeat (first | refine blk_drewN ?_ _ | refine blk_drew ?_ | refine blk_alloc ?_ _)); exact BK382.out) hb); have n3_ := bs HB hb; revert n0_ n1_ n2_ n3_; clear HO385 BK382 HB; intro HO385 HO391 BK382 HB; (try clear hb); (try clear ho0); have hcz163_0 := bc BK382 0; have hcz163_1 := bc BK382 1; have hfz163_0 := bf BK382 0; have hfz163_1 := bf BK382 1) | ((with_reducible refine gate_callee (f := 18) rfl ?_); refine gl 22 Tryz.func18 #[.slice Ao161 t383.length co161, .agg #[.string t386, .string t387]] ?_; (with_reducible refine (why_Chain.calls _ _ t383 t386 t387 t392 t395 _ ?side1 ?side2 A6.out).mono ?_); (case side1 => repeat (first | exact (Kd.R_reads' HO385.out).2.2 | (with_reducible refine Kd.C_alloc ?_ _) | (with_reducible refine Kd.C_drewN ?_ _) | (with_reducible refine Kd.C_drew ?_))); (case side2 => exact (Kd.R_reads' HO385.out).2.1); rintro e w164 ⟨v393, rfl, ho0, hb⟩; refine ⟨_, rfl, ?_⟩; have n0_ := rb HO385 hb; have n1_ := rb HO391 hb; have n2_ := Aside0.mk (Kd.R_lower (Kd.R_newB ho0 (g := gb382) (o := .cells #[.string t386, .string t387] 24 (0, 0)) (bk BK382)) (bz HB)); have n3_ := bb BK382 hb; have n4_ := bs HB hb; revert n0_ n1_ n2_ n3_ n4_; clear HO385 HO391 BK382 HB; intro HO385 HO391 HO394 BK382 HB; (try clear hb); (try clear ho0)) | ((with_reducible refine gate_callee (f := 19) rfl ?_); refine gl 26 Tryz.func19 #[.slice Ao161 t383.length co161] ?_; (with_reducible refine (r18_May.calls k _ _ t383 false _ ?side1 ?side2 A7.out).mono ?_); (case side1 => repeat (first | exact (Kd.R_reads' HO385.out).2.2 | (with_reducible refine Kd.C_alloc ?_ _) | (with_reducible refine Kd.C_drewN ?_ _) | (with_reducible refine Kd.C_drew ?_))); (case side2 => exact (Kd.R_reads' HO385.out).2.1); rintro e w165 ⟨rfl, hb⟩; refine ⟨_, rfl, ?_⟩; have n0_ := rb HO385 hb; have n1_ := rb HO391 hb; have n2_ := rb HO394 hb; have n3_ := bb BK382 hb; have n4_ := bs HB hb; revert n0_ n1_ n2_ n3_ n4_; clear HO385 HO391 HO394 BK382 HB; intro HO385 HO391 HO394 BK382 HB; (try clear hb); obtain ⟨Ao166, co166, eo166⟩ := Kd.R_slice HO391.out; subst eo166))
    go_ret
    exact ⟨by first | rfl | (simp [errW_none, errW_some] <;> rfl) | (simp [*, errW_none, errW_some] <;> rfl), ba HB⟩
  ·rw [if_neg c110] at H
   have c110b0 := beq_eq_false_iff_ne.mpr c110
   have c110b1 := bne_iff_ne.mpr c110
   have c110b2 : ¬ (t388 = []) := fun h_ => c110 (by rw [h_]; rfl)
   obtain rfl := Option.some.inj H
   go_enter Tryz.func3, Tryz.ntmps3
   try go_wp2_with (first | ((with_reducible refine gate_dst (N := 3) rfl ?_); (try (refine gate_guard (by rfl) ?_; dsimp only)); refine box_event ?hg (N := 3) ?hd (cs := #[.string a1_0, .string a1_1]) (t := 24) ?hr ?_; (case hd => rfl); (case hg => rfl); (case hr => first | (go_simp; done) | (go_simp; rfl)); intro gb382 hg w167 hbox hb; have n0_ := bs HB hb; have n1_ := Aside0.mk (hbox); have n2_ := gz hg HB; have n3_ := gz hg HB; revert n0_ n1_ n2_ n3_; clear HB; intro HB BK382 GW382 GE382; clear hb hbox hg))
   have n0_ := Aside0.mk (blk_drew BK382.out)
   have n1_ := Aside0.mk (below_drew1 HB.out)
   revert n0_ n1_
   clear BK382 HB
   intro BK382 HB
   refine start_ (n := 6) (S := fun w' => w'.cell? ⟨gb382, 0, none⟩ = some (.string a1_0) ∧ w'.cell? ⟨gb382, 1, none⟩ = some (.string a1_1)) (ds := [5]) #[false, false, false, false, false, false] (by kernel_rfl) rfl rfl ⟨bc BK382 0, bc BK382 1⟩ (fun hHeld => ?_)
   generalize w167.drew = w168 at BK382 HB hHeld ⊢
   refine pu 0 10 ?_
   refine tk 2 12 ?_
   refine oq 1 (some 11) fun K hK => ?_
   refine gs Tryz.func15 #[.slice A0 l0.length c0] ?_
   with_reducible refine (w18_Few.calls k _ _ l0 t383 _ ?side1 ?side2 A3.out).mono ?_
   (case side1 => repeat (first | exact (Kd.C_below HR0.out HB.out) | (with_reducible refine Kd.C_alloc ?_ _) | (with_reducible refine Kd.C_drewN ?_ _) | (with_reducible refine Kd.C_drew ?_)))
   (case side2 => exact HC0.out)
   rintro e w169 ⟨v384, rfl, ho0, hb⟩
   refine ⟨_, rfl, ?_⟩
   have n0_ := Aside0.mk (Kd.R_lower ho0 (bz HB))
   have n1_ := bb BK382 hb
   have n2_ := bs HB hb
   revert n0_ n1_ n2_
   clear BK382 HB
   intro HO385 BK382 HB
   try clear hb
   (try clear ho0)
   refine hK.out _ _ ⟨bc BK382 0, bc BK382 1⟩ (fun hHeld => ?_)
   clear hK K
   refine nm ?_
   refine oq 3 (some 13) fun K hK => ?_
   refine gs Tryz.func16 #[.agg #[.string a1_0, .string a1_1]] ?_
   with_reducible refine (w05_One.calls a1_0 a1_1 t386 t387 _ A4.out).mono ?_
   rintro e w170 ⟨rfl, hb⟩
   refine ⟨_, rfl, ?_⟩
   have n0_ := rb HO385 hb
   have n1_ := bb BK382 hb
   have n2_ := bs HB hb
   revert n0_ n1_ n2_
   clear HO385 BK382 HB
   intro HO385 BK382 HB
   try clear hb
   refine hK.out _ _ ⟨bc BK382 0, bc BK382 1⟩ (fun hHeld => ?_)
   clear hK K
   refine nm ?_
   refine pu 4 0 ?_
   refine lq 5 none fun K hK => ?_
   have hs171 := bc BK382 0
   have hfs171 := bf BK382 0
   have hs172 := bc BK382 1
   have hfs172 := bf BK382 1
   refine sk ?_
   refine hK.out _ _ ?_
   clear hK K
   refine dq ?_
   obtain ⟨Ao173, co173, eo173⟩ := Kd.R_slice HO385.out
   subst eo173
   try go_wp2_with (first | ((with_reducible refine gate_callee (f := 17) rfl ?_); refine gl 16 Tryz.func17 #[.slice Ao173 t383.length co173] ?_; (with_reducible refine (why_Depths.calls _ _ t383 t388 t389 _ ?side1 ?side2 A5.out).mono ?_); (case side1 => refine (Kd.R_reads' (e := 49) (base := w.heap.size) (ok := fun k_ => True) (n := t383.length) (c := co173) ?_).2.2; exact (by (with_reducible repeat (first | apply Kd.R_alloc | apply Kd.R_drewN | apply Kd.R_drew)); exact (Kd.R_mono (Kd.R_far (p := ⟨gb382, 1, none⟩) (Kd.R_far (p := ⟨gb382, 0, none⟩) (Kd.R_types HO385.out BK382.out (by decide)) (fun _ hk => hk.2) (.string t386)) (fun _ hk => hk.2) (.string t387)) (fun _ h_ => h_.1)))); (case side2 => exact (Kd.R_reads' HO385.out).2.1); rintro e w174 ⟨v390, rfl, ho0, hb⟩; refine ⟨_, rfl, ?_⟩; have n0_ := Aside0.mk (Kd.R_below (by (with_reducible repeat (first | apply Kd.R_alloc | apply Kd.R_drewN | apply Kd.R_drew)); exact (Kd.R_mono (Kd.R_far (p := ⟨gb382, 1, none⟩) (Kd.R_far (p := ⟨gb382, 0, none⟩) (Kd.R_types HO385.out BK382.out (by decide)) (fun _ hk => hk.2) (.string t386)) (fun _ hk => hk.2) (.string t387)) (fun _ h_ => h_.1))) hb); have n1_ := Aside0.mk (Kd.R_lower ho0 (bz HB)); have n2_ := Aside0.mk (blk_below (g := gb382) (o := .cells #[.string t386, .string t387] 24 (0, 0)) (by (with_reducible repeat (first | refine blk_drewN ?_ _ | refine blk_drew ?_ | refine blk_alloc ?_ _)); refine blk_put (cs := #[.string t386, .string a1_1]) ?_ 1 _ rfl; (with_reducible repeat (first | refine blk_drewN ?_ _ | refine blk_drew ?_ | refine blk_alloc ?_ _)); refine blk_put (cs := #[.string a1_0, .string a1_1]) ?_ 0 _ rfl; (with_reducible repeat (first | refine blk_drewN ?_ _ | refine blk_drew ?_ | refine blk_alloc ?_ _)); exact BK382.out) hb); have n3_ := bs HB hb; revert n0_ n1_ n2_ n3_; clear HO385 BK382 HB; intro HO385 HO391 BK382 HB; (try clear hb); (try clear ho0); have hcz175_0 := bc BK382 0; have hcz175_1 := bc BK382 1; have hfz175_0 := bf BK382 0; have hfz175_1 := bf BK382 1) | ((with_reducible refine gate_callee (f := 18) rfl ?_); refine gl 22 Tryz.func18 #[.slice Ao173 t383.length co173, .agg #[.string t386, .string t387]] ?_; (with_reducible refine (why_Chain.calls _ _ t383 t386 t387 t392 t395 _ ?side1 ?side2 A6.out).mono ?_); (case side1 => repeat (first | exact (Kd.R_reads' HO385.out).2.2 | (with_reducible refine Kd.C_alloc ?_ _) | (with_reducible refine Kd.C_drewN ?_ _) | (with_reducible refine Kd.C_drew ?_))); (case side2 => exact (Kd.R_reads' HO385.out).2.1); rintro e w176 ⟨v393, rfl, ho0, hb⟩; refine ⟨_, rfl, ?_⟩; have n0_ := rb HO385 hb; have n1_ := rb HO391 hb; have n2_ := Aside0.mk (Kd.R_lower (Kd.R_newB ho0 (g := gb382) (o := .cells #[.string t386, .string t387] 24 (0, 0)) (bk BK382)) (bz HB)); have n3_ := bb BK382 hb; have n4_ := bs HB hb; revert n0_ n1_ n2_ n3_ n4_; clear HO385 HO391 BK382 HB; intro HO385 HO391 HO394 BK382 HB; (try clear hb); (try clear ho0)) | ((with_reducible refine gate_callee (f := 19) rfl ?_); refine gl 26 Tryz.func19 #[.slice Ao173 t383.length co173] ?_; (with_reducible refine (r18_May.calls k _ _ t383 false _ ?side1 ?side2 A7.out).mono ?_); (case side1 => repeat (first | exact (Kd.R_reads' HO385.out).2.2 | (with_reducible refine Kd.C_alloc ?_ _) | (with_reducible refine Kd.C_drewN ?_ _) | (with_reducible refine Kd.C_drew ?_))); (case side2 => exact (Kd.R_reads' HO385.out).2.1); rintro e w177 ⟨rfl, hb⟩; refine ⟨_, rfl, ?_⟩; have n0_ := rb HO385 hb; have n1_ := rb HO391 hb; have n2_ := rb HO394 hb; have n3_ := bb BK382 hb; have n4_ := bs HB hb; revert n0_ n1_ n2_ n3_ n4_; clear HO385 HO391 HO394 BK382 HB; intro HO385 HO391 HO394 BK382 HB; (try clear hb); obtain ⟨Ao178, co178, eo178⟩ := Kd.R_slice HO391.out; subst eo178))
   go_ret
   exact ⟨by first | rfl | (simp [errW_none, errW_some] <;> rfl) | (simp [*, errW_none, errW_some] <;> rfl), ba HB⟩
end Go.Proofs.YtjfcmkddeglghaaGreatDoor.G
end
section
namespace Go.Proofs.YtjfcmkddeglghaaGreatDoor.G
open Go.RowKit Gw Go.Proofs.YtjfcmkddeglghaaGreatDoorW.PrintWords Go.Proofs.YtjfcmkddeglghaaGreatDoorW.PrintLast Go.Proofs.YtjfcmkddeglghaaGreatDoorW.PrintMore
set_option linter.unusedVariables false
set_option linter.unusedSimpArgs false
def few1 (s : ByteArray) : ByteArray := if s.size > 400 then s.extract 0 400 else s
theorem few1_ev (s : ByteArray) : w01_Few.f s = some (few1 s) := by
  unfold w01_Few.f few1
  by_cases h : s.size > 400
  · rw [if_pos (by omega), if_pos (by omega), if_pos (by omega), if_pos h]
  · rw [if_neg (by omega), if_neg h]
theorem few1_size (s : ByteArray) : (few1 s).size ≤ 400 := by
  unfold few1
  split
  · rw [ByteArray.size_extract]; omega
  · omega
def fewN (x : SNode) : SNode := ⟨few1 x.f0, few1 x.f1⟩
theorem fewN_ok (x : SNode) : okNode (fewN x) = true := by
  have h0 := few1_size x.f0
  have h1 := few1_size x.f1
  unfold okNode fewN
  simp only [Bool.and_eq_true, decide_eq_true_eq]
  omega
theorem one_ev (a b : ByteArray) : w05_One.f a b = some (few1 a, few1 b) := by
  unfold w05_One.f
  rw [few1_ev, few1_ev]
  rfl
def fewL (l : List SNeed) : List SNeed := (l.take 30).map fun x => ⟨fewN x.f0, fewN x.f1⟩
theorem fewL_len (l : List SNeed) : (fewL l).length ≤ 30 := by unfold fewL; simp; omega
theorem fewL_ok (l : List SNeed) : ∀ x ∈ fewL l, okNeed x = true := by
  intro x hx
  unfold fewL at hx
  obtain ⟨y, _, rfl⟩ := List.mem_map.1 hx
  unfold okNeed
  simp only [Bool.and_eq_true]
  exact ⟨fewN_ok _, fewN_ok _⟩
theorem fewL_loop (l : List SNeed) : ∀ n i (acc : List SNeed), i + n = min l.length 30 → acc.length = i →
    Ev (fun k => w18_Few.l0 k l acc (i : Int)) (acc ++ ((l.take 30).drop i).map fun x => ⟨fewN x.f0, fewN x.f1⟩) := by
  intro n
  induction n with
  | zero =>
    intro i acc hi ha
    have hd : (l.take 30).drop i = [] := List.drop_of_length_le (by rw [List.length_take]; omega)
    rw [hd, List.map_nil, List.append_nil]
    refine Ev.succ ?_
    simp only [w18_Few.l0]
    by_cases h : i < l.length
    · refine Ev.pos (by omega) (Ev.succ ?_)
      simp only [w18_Few.j1]
      exact Ev.neg (by simp; omega) (Ev.some_ _)
    · refine Ev.neg (by omega) (Ev.succ ?_)
      simp only [w18_Few.j1]
      exact Ev.neg (by simp) (Ev.some_ _)
  | succ n ih =>
    intro i acc hi ha
    have hil : i < l.length := by omega
    have hi30 : i < 30 := by omega
    refine Ev.succ ?_
    simp only [w18_Few.l0]
    refine Ev.pos (by omega) (Ev.succ ?_)
    simp only [w18_Few.j1]
    refine Ev.pos (by simp; omega) (Ev.pos (by omega) (Ev.pos (by omega) ?_))
    rw [rdNeed_at l i hil, w64n i (by omega)]
    refine Ev.bindc (one_ev _ _) (Ev.bindc (one_ev _ _) (Ev.pos (by omega) ?_))
    refine Ev.val (ih (i + 1) _ (by omega) (by simp [ha])) ?_
    have hlt : i < (l.take 30).length := by rw [List.length_take]; omega
    rw [drop_at (l.take 30) i hlt, List.map_cons, List.getElem_take]
    simp [fewN]
theorem fewL_ev (l : List SNeed) : Ev (fun k => w18_Few.f k l) (fewL l) := by
  unfold w18_Few.f fewL
  exact Ev.val (fewL_loop l (min l.length 30) 0 [] (by omega) rfl) (by simp)
theorem refHasN_loop (l : List SNeed) (a b : SNode) (hl : l.length < 1000000000) : ∀ n i, i + n = l.length →
    Ev (fun k => r19_Has.l0 k l (i : Int) a.f0 a.f1 b.f0 b.f1) (decide ((a, b) ∈ (prs l).drop i)) := by
  intro n
  induction n with
  | zero =>
    intro i hi
    refine Ev.succ ?_
    simp only [r19_Has.l0]
    refine Ev.neg (by omega) (Ev.some_eq ?_)
    rw [List.drop_of_length_le (by simp [prs]; omega)]
    rfl
  | succ n ih =>
    intro i hi
    have hil : i < l.length := by omega
    refine Ev.succ ?_
    simp only [r19_Has.l0]
    refine Ev.pos (by omega) (Ev.pos (by omega) ?_)
    rw [rdNeed_at l i hil, w64n i (by omega)]
    have hd : (prs l).drop i = (l[i].f0, l[i].f1) :: (prs l).drop (i + 1) := by
      rw [drop_at (prs l) i (by simpa [prs] using hil)]
      simp [prs]
    rw [hd]
    have hrest : ¬ (a, b) = (l[i].f0, l[i].f1) → decide ((a, b) ∈ (prs l).drop (i + 1)) = decide ((a, b) ∈ (l[i].f0, l[i].f1) :: (prs l).drop (i + 1)) := by
      intro hne
      apply decide_eq_decide.2
      rw [List.mem_cons]
      exact ⟨fun h => .inr h, fun h => h.resolve_left hne⟩
    by_cases h0 : sameN l[i].f0 a = true
    · refine Ev.pos h0 ?_
      by_cases h1 : sameN l[i].f1 b = true
      · refine Ev.pos h1 (Ev.some_eq ?_)
        rw [(sameN_iff _ _).1 h0, (sameN_iff _ _).1 h1]
        simp
      · refine Ev.neg h1 (Ev.val (ih (i + 1) (by omega)) (hrest ?_))
        intro e
        injection e with _ e
        exact h1 ((sameN_iff _ _).2 e.symm)
    · refine Ev.neg h0 (Ev.val (ih (i + 1) (by omega)) (hrest ?_))
      intro e
      injection e with e _
      exact h0 ((sameN_iff _ _).2 e.symm)
theorem refHasN_ev (l : List SNeed) (a b : SNode) (hl : l.length < 1000000000) : Ev (fun k => r19_Has.f k l a.f0 a.f1 b.f0 b.f1) (decide ((a, b) ∈ prs l)) := by
  unfold r19_Has.f
  exact Ev.val (refHasN_loop l a b hl _ 0 (Nat.zero_add _)) (by rw [List.drop_zero])
theorem rdL_at (lv : List (List SNode)) (i : Nat) (h : i < lv.length) : rd_L11 lv (i : Int) = lv[i] := rdOf_at _ lv i h
theorem refDepth_loop (lv : List (List SNode)) (y : SNode) (hl : lv.length < 1000000000) (hL : ∀ L ∈ lv, L.length < 1000000000) : ∀ n i, i + n = lv.length →
    Ev (fun k => r19_Depth.l0 k lv (i : Int) y.f0 y.f1) (if depthOf (lv.drop i) y = 0 then 0 else ((i + depthOf (lv.drop i) y : Nat) : Int)) := by
  intro n
  induction n with
  | zero =>
    intro i hi
    refine Ev.succ ?_
    simp only [r19_Depth.l0]
    refine Ev.neg (by omega) (Ev.some_eq ?_)
    rw [List.drop_of_length_le (by omega)]
    rfl
  | succ n ih =>
    intro i hi
    have hil : i < lv.length := by omega
    refine Ev.succ ?_
    simp only [r19_Depth.l0]
    refine Ev.pos (by omega) (Ev.pos (by omega) ?_)
    rw [rdL_at lv i hil, drop_at lv i hil, w64n i (by omega)]
    refine Ev.bind (refHas_ev lv[i] y (hL _ (List.getElem_mem _))) ?_
    unfold depthOf
    by_cases h : y ∈ lv[i]
    · refine Ev.pos (by simpa using h) (Ev.some_eq ?_)
      rw [if_pos h, if_neg (by omega)]
    · refine Ev.neg (by simpa using h) (Ev.val (ih (i + 1) (by omega)) ?_)
      rw [if_neg h]
      by_cases h0 : depthOf (lv.drop (i + 1)) y = 0
      · rw [if_pos h0, if_pos h0, if_pos rfl]
      · rw [if_neg h0, if_neg h0, if_neg (by omega)]
        congr 1
        omega
theorem refDepth_ev (lv : List (List SNode)) (y : SNode) (hl : lv.length < 1000000000) (hL : ∀ L ∈ lv, L.length < 1000000000) : Ev (fun k => r19_Depth.f k lv y.f0 y.f1) (depthOf lv y : Int) := by
  unfold r19_Depth.f
  refine Ev.val (refDepth_loop lv y hl hL _ 0 (Nat.zero_add _)) ?_
  rw [List.drop_zero, Nat.zero_add]
  split
  · rename_i h; rw [h]; rfl
  · rfl
theorem refChain_ev (l : List SNeed) (lv : List (List SNode)) (hl : l.length < 1000000000) (hlv : lv.length < 1000000000) (hL : ∀ L ∈ lv, L.length < 1000000000) : ∀ (k : Nat) (y : SNode) (c : List SNode), rChain (prs l) lv k y = some c → k < 1000000 → c.length ≤ k ∧ Ev (fun k => r19_Chain.f k l lv y.f0 y.f1) c := by
  intro k
  induction k with
  | zero => intro y c h; simp [rChain] at h
  | succ k ih =>
    intro y c h hk
    simp only [rChain] at h
    by_cases hd : depthOf lv y ≤ 1
    · rw [if_pos hd] at h
      obtain rfl := Option.some.inj h
      refine ⟨by simp, Ev.succ ?_⟩
      simp only [r19_Chain.f]
      exact Ev.bind (refDepth_ev lv y hlv hL) (Ev.pos (by omega) (Ev.some_ _))
    · rw [if_neg hd] at h
      obtain ⟨L, hL1, h⟩ := Option.bind_eq_some_iff.1 h
      have hlt : depthOf lv y - 2 < lv.length := (List.getElem?_eq_some_iff.1 hL1).1
      have hLe : lv[depthOf lv y - 2] = L := (List.getElem?_eq_some_iff.1 hL1).2
      have hdl : depthOf lv y < 1000000003 := by omega
      have hLl : L.length < 1000000000 := hL L (List.mem_of_getElem? hL1)
      have hfin : ∀ c, Ev (fun k => r19_Chain.l0 k l lv L (0 : Int) y.f0 y.f1) c → Ev (fun k => r19_Chain.f k l lv y.f0 y.f1) c := by
        intro c e2
        refine Ev.succ ?_
        simp only [r19_Chain.f]
        refine Ev.bind (refDepth_ev lv y hlv hL) (Ev.neg (by omega) ?_)
        rw [w64 (by omega) (by omega), show ((depthOf lv y : Int) - 2) = ((depthOf lv y - 2 : Nat) : Int) from by omega, rdL_at lv _ hlt, hLe]
        exact Ev.pos (by omega) (Ev.pos (by omega) e2)
      have hsome : ∀ (q : SNode → Bool), (∀ a, q a = decide ((a, y) ∈ prs l)) → ∀ (a : SNode) (c' : List SNode), rChain (prs l) lv k a = some c' → ∀ n i, i + n = L.length → (L.drop i).find? q = some a →
          Ev (fun k => r19_Chain.l0 k l lv L (i : Int) y.f0 y.f1) (c' ++ [y]) := by
        intro q hq a c' hc n
        obtain ⟨e1, e2⟩ := ih a c' hc (by omega)
        induction n with
        | zero =>
          intro i hi hf
          rw [List.drop_of_length_le (by omega)] at hf
          cases hf
        | succ n ihn =>
          intro i hi hf
          have hil : i < L.length := by omega
          rw [drop_at L i hil, List.find?_cons, hq] at hf
          have hH := refHasN_ev l L[i] y hl
          refine Ev.succ ?_
          simp only [r19_Chain.l0]
          refine Ev.pos (by omega) (Ev.pos (by omega) ?_)
          rw [rdNode_at L i hil, w64n i (by omega)]
          cases hm : decide ((L[i], y) ∈ prs l) with
          | true =>
            rw [hm] at hf hH
            have hf := Option.some.inj hf
            rw [hf] at hH ⊢
            exact Ev.bind hH (Ev.pos rfl (Ev.bind e2 (Ev.bindc rfl (Ev.pos (by simp; omega) (Ev.some_ _)))))
          | false =>
            rw [hm] at hf hH
            exact Ev.bind hH (Ev.neg (by simp) (ihn (i + 1) (by omega) hf))
      have hnone : ∀ (q : SNode → Bool), (∀ a, q a = decide ((a, y) ∈ prs l)) → ∀ n i, i + n = L.length → (L.drop i).find? q = none →
          Ev (fun k => r19_Chain.l0 k l lv L (i : Int) y.f0 y.f1) [] := by
        intro q hq n
        induction n with
        | zero =>
          intro i hi hf
          refine Ev.succ ?_
          simp only [r19_Chain.l0]
          exact Ev.neg (by omega) (Ev.some_ _)
        | succ n ihn =>
          intro i hi hf
          have hil : i < L.length := by omega
          rw [drop_at L i hil, List.find?_cons, hq] at hf
          have hH := refHasN_ev l L[i] y hl
          refine Ev.succ ?_
          simp only [r19_Chain.l0]
          refine Ev.pos (by omega) (Ev.pos (by omega) ?_)
          rw [rdNode_at L i hil, w64n i (by omega)]
          cases hm : decide ((L[i], y) ∈ prs l) with
          | true =>
            rw [hm] at hf
            cases hf
          | false =>
            rw [hm] at hf hH
            exact Ev.bind hH (Ev.neg (by simp) (ihn (i + 1) (by omega) hf))
      split at h
      · rename_i a hf
        obtain ⟨c', hc', rfl⟩ := Option.map_eq_some_iff.1 h
        obtain ⟨q, hfq, hq⟩ : ∃ q : SNode → Bool, L.find? q = some a ∧ ∀ a, q a = decide ((a, y) ∈ prs l) := ⟨_, hf, fun a => decide_eq_decide.2 Iff.rfl⟩
        obtain ⟨e1, _⟩ := ih a c' hc' (by omega)
        exact ⟨by simp; omega, hfin _ (hsome q hq a c' hc' L.length 0 (Nat.zero_add _) (by rw [List.drop_zero]; exact hfq))⟩
      · rename_i hf
        obtain rfl := Option.some.inj h
        obtain ⟨q, hfq, hq⟩ : ∃ q : SNode → Bool, L.find? q = none ∧ ∀ a, q a = decide ((a, y) ∈ prs l) := ⟨_, hf, fun a => decide_eq_decide.2 Iff.rfl⟩
        exact ⟨by simp, hfin _ (hnone q hq L.length 0 (Nat.zero_add _) (by rw [List.drop_zero]; exact hfq))⟩
end Go.Proofs.YtjfcmkddeglghaaGreatDoor.G
end
section
namespace Go.Proofs.YtjfcmkddeglghaaGreatDoor.G
open Go.RowKit Gw Go.Proofs.YtjfcmkddeglghaaGreatDoorW.PrintWords Go.Proofs.YtjfcmkddeglghaaGreatDoorW.PrintLast Go.Proofs.YtjfcmkddeglghaaGreatDoorW.PrintMore
set_option linter.unusedVariables false
set_option linter.unusedSimpArgs false
set_option linter.unusedSectionVars false
theorem deeps_loop (a : List SDeep) (hl : a.length < 1000000000) : ∀ n i, i + n = a.length → Ev (fun k => w19_deeps.l0 k a a (i : Int)) true := by
  intro n
  induction n with
  | zero =>
    intro i hi
    refine Ev.succ ?_
    simp only [w19_deeps.l0]
    exact Ev.neg (by omega) (Ev.some_ _)
  | succ n ih =>
    intro i hi
    refine Ev.succ ?_
    simp only [w19_deeps.l0]
    rw [w64n i (by omega)]
    exact Ev.pos (by omega) (Ev.pos (by omega) (Ev.pos (by omega) (Ev.neg (by simp) (ih (i + 1) (by omega)))))
theorem deeps_ev (a : List SDeep) (hl : a.length < 1000000000) : Ev (fun k => w19_deeps.f k a a) true := by
  unfold w19_deeps.f
  exact Ev.pos rfl (deeps_loop a hl _ 0 (Nat.zero_add _))
def refDeps (lv : List (List SNode)) : List SDeep := (setS ndC lv.flatten).map fun y => ⟨y, (depthOf lv y : Int)⟩
theorem setS_len (l : List SNode) (hl : ∀ y ∈ l, goodN y) : (setS ndC l).length ≤ l.length :=
  nodup_len _ _ (sorted_nodup ndC_total (setS_sorted ndC_total hl)) (fun y hy => (mem_setS ndC_total hl).1 hy)
theorem refDepths_l1 (lv : List (List SNode)) (all : List SNode) (hlv : lv.length < 1000000000) (hL : ∀ L ∈ lv, L.length < 1000000000) (ha : all.length < 1000000000) : ∀ n i (acc : List SDeep), i + n = all.length → acc.length ≤ i →
    Ev (fun k => r19_Depths.l1 k lv all acc (i : Int)) (acc ++ (all.drop i).map fun y => ⟨y, (depthOf lv y : Int)⟩) := by
  intro n
  induction n with
  | zero =>
    intro i acc hi hacc
    refine Ev.succ ?_
    simp only [r19_Depths.l1]
    refine Ev.neg (by omega) (Ev.some_eq ?_)
    rw [List.drop_of_length_le (by omega : all.length ≤ i)]
    simp
  | succ n ih =>
    intro i acc hi hacc
    have hil : i < all.length := by omega
    refine Ev.succ ?_
    simp only [r19_Depths.l1]
    refine Ev.pos (by omega) (Ev.pos (by omega) ?_)
    rw [rdNode_at all i hil, w64n i (by omega)]
    refine Ev.bind (refDepth_ev lv all[i] hlv hL) (Ev.pos (by omega) ?_)
    refine Ev.val (ih (i + 1) _ (by omega) (by simp; omega)) ?_
    rw [drop_at all i hil, List.map_cons]
    simp
theorem refDepths_l0 (lv : List (List SNode)) (hlv : lv.length < 1000000000) (hL : ∀ L ∈ lv, L.length < 1000000000) (hg : ∀ L ∈ lv, ∀ y ∈ L, goodN y) (hf : lv.flatten.length < 100000000) : ∀ n i (acc : List SNode), i + n = lv.length → acc ++ (lv.drop i).flatten = lv.flatten →
    Ev (fun k => r19_Depths.l0 k lv acc (i : Int)) (refDeps lv) := by
  have hgf : ∀ y ∈ lv.flatten, goodN y := by
    intro y hy
    obtain ⟨L, h1, h2⟩ := List.mem_flatten.1 hy
    exact hg L h1 y h2
  intro n
  induction n with
  | zero =>
    intro i acc hi hacc
    rw [List.drop_of_length_le (by omega)] at hacc
    simp at hacc
    subst hacc
    refine Ev.succ ?_
    simp only [r19_Depths.l0]
    refine Ev.neg (by omega) (Ev.bind (refSet_ev _ hgf hf) ?_)
    have h1 := setS_len lv.flatten hgf
    exact Ev.val (refDepths_l1 lv _ hlv hL (by omega) _ 0 [] (Nat.zero_add _) (by simp)) (by simp [refDeps])
  | succ n ih =>
    intro i acc hi hacc
    have hil : i < lv.length := by omega
    rw [drop_at lv i hil, List.flatten_cons] at hacc
    have hlen := congrArg List.length hacc
    simp only [List.length_append] at hlen
    refine Ev.succ ?_
    simp only [r19_Depths.l0]
    refine Ev.pos (by omega) (Ev.pos (by omega) ?_)
    rw [rdL_at lv i hil, w64n i (by omega)]
    refine Ev.pos (by omega) ?_
    exact ih (i + 1) _ (by omega) (by rw [← hacc, List.append_assoc])
structure Known (l : List SNeed) (lv : List (List SNode)) (r : DMap) : Prop where
  len : l.length ≤ 30
  ok : ∀ x ∈ l, okNeed x = true
  may : l.any badNeed = false
  out : outerD l (l.length + 2) 1 [zN] [] = some r
  lev : rLevels ndC (prs l) (l.length + 2) [zN] [] = some lv
  t : Gw.Told ndC goodN (prs l) zN lv r
theorem Known.mk' {l : List SNeed} (h1 : l.length ≤ 30) (h2 : ∀ x ∈ l, okNeed x = true) (h3 : l.any badNeed = false) : ∃ lv r, Known l lv r := by
  obtain ⟨lv, r, a, b, c⟩ := told_needs h2 h3
  exact ⟨lv, r, h1, h2, h3, a, b, c⟩
section
variable {l : List SNeed} {lv : List (List SNode)} {r : DMap} (K : Known l lv r)
include K
theorem Known.lvl : lv.length ≤ 30 := by have := levels_len K.t; have := K.len; omega
theorem Known.good : ∀ L ∈ lv, ∀ y ∈ L, goodN y := fun L hL => (K.t.lev.lvl L hL).2.2
theorem Known.Ll : ∀ L ∈ lv, L.length ≤ 30 := by
  intro L hL
  obtain ⟨i, hi, e⟩ := List.getElem_of_mem hL
  have h1 := nodup_len L ((prs l).map Prod.snd) (sorted_nodup ndC_total (K.t.lev.lvl L hL).1) (fun y hy => by
    cases i with
    | zero =>
      obtain ⟨x, hx, _, e2⟩ := K.t.lev.from0 L (by rw [List.getElem?_eq_getElem hi, e]) y hy
      exact List.mem_map.2 ⟨x, hx, e2⟩
    | succ i =>
      obtain ⟨x, hx, _, e2⟩ := K.t.lev.fromS i (lv[i]'(by omega)) L (List.getElem?_eq_getElem (by omega)) (by rw [List.getElem?_eq_getElem hi, e]) y hy
      exact List.mem_map.2 ⟨x, hx, e2⟩)
  have := K.len
  simp [prs] at h1
  omega
omit K in
theorem flat_len : ∀ (M : List (List SNode)), (∀ L ∈ M, L.length ≤ 30) → M.flatten.length ≤ 30 * M.length := by
  intro M
  induction M with
  | nil => intro _; simp
  | cons L M ih =>
    intro h
    have h1 := ih (fun x hx => h x (by simp [hx]))
    have h2 := h L (by simp)
    simp only [List.flatten_cons, List.length_append, List.length_cons]
    omega
theorem Known.flat : lv.flatten.length ≤ 900 := by have := flat_len lv K.Ll; have := K.lvl; omega
theorem Known.levels : r19_Levels.f l = some lv := by
  unfold r19_Levels.f
  have h1 : l.all okNeed = true := List.all_eq_true.2 K.ok
  have h2 : l.all (fun x => mayN x.f1) = true := List.all_eq_true.2 (fun x hx => by
    have := good_to K.ok K.may (x.f0, x.f1) (List.mem_map.2 ⟨x, hx, rfl⟩)
    exact this.2)
  have := K.len
  rw [h1, h2, if_pos (by simp; omega)]
  exact K.lev
theorem Known.depths : Ev (fun k => r19_Depths.f k l) (refDeps lv) := by
  unfold r19_Depths.f
  have h1 := K.lvl
  have h2 := K.flat
  refine Ev.bindc K.levels ?_
  exact refDepths_l0 lv (by omega) (fun L hL => by have := K.Ll L hL; omega) K.good (by omega) _ 0 [] (Nat.zero_add _) (by simp)
theorem Known.deps : refDeps lv = depsOf r := by
  have hgf : ∀ y ∈ lv.flatten, goodN y := by
    intro y hy
    obtain ⟨L, h1, h2⟩ := List.mem_flatten.1 hy
    exact K.good L h1 y h2
  refine deps_unique K.t.lev.nodup (fun y hy => ?_) _ ?_ (fun q => ?_)
  · obtain ⟨⟨a, v⟩, hq, rfl⟩ := List.mem_map.1 hy
    exact K.t.good ((K.t.mem a v).1 hq).1
  · unfold refDeps
    rw [List.map_map]
    have : ((fun q : SDeep => q.f0) ∘ fun y : SNode => (⟨y, (depthOf lv y : Int)⟩ : SDeep)) = id := rfl
    rw [this, List.map_id]
    exact setS_sorted ndC_total hgf
  · unfold refDeps
    rw [K.t.mem, List.mem_map]
    constructor
    · rintro ⟨y, hy, rfl⟩
      refine ⟨?_, rfl⟩
      rw [mem_setS ndC_total hgf] at hy
      obtain ⟨L, h1, h2⟩ := List.mem_flatten.1 hy
      intro h0
      exact (depthOf_zero lv y).1 h0 L h1 h2
    · rintro ⟨h0, hv⟩
      refine ⟨q.f0, ?_, ?_⟩
      · rw [mem_setS ndC_total hgf]
        obtain ⟨i, hi⟩ : ∃ i, depthOf lv q.f0 = i + 1 := ⟨depthOf lv q.f0 - 1, by omega⟩
        obtain ⟨L, h1, h2⟩ := depthOf_some lv q.f0 i hi
        exact List.mem_flatten.2 ⟨L, List.mem_of_getElem? h1, h2⟩
      · obtain ⟨a, b⟩ := q
        simp only at hv ⊢
        rw [hv]
theorem Known.progDepths : why_Depths.f l = some (refDeps lv, 0) := by
  unfold why_Depths.f
  have h1 : l.all okNeed = true := List.all_eq_true.2 K.ok
  have := K.len
  rw [h1, if_pos (by simp; omega), if_neg (by rw [K.may]; simp), K.out, K.deps]
  rfl
theorem Known.deps_len : (refDeps lv).length ≤ 900 := by
  have hgf : ∀ y ∈ lv.flatten, goodN y := by
    intro y hy
    obtain ⟨L, h1, h2⟩ := List.mem_flatten.1 hy
    exact K.good L h1 y h2
  have h1 := setS_len lv.flatten hgf
  have h2 := K.flat
  unfold refDeps
  rw [List.length_map]
  omega
theorem Known.chain {n : SNode} (hn : okNode n = true) (hm : mayN n = true) (h0 : depthOf lv n ≠ 0) : ∃ c, why_Chain.f l n.f0 n.f1 = some (c, 0) ∧ Ev (fun k => r19_Chain.f k l lv n.f0 n.f1) c ∧ c.length = depthOf lv n ∧ c.length ≤ 31 := by
  obtain ⟨i, hi⟩ : ∃ i, depthOf lv n = i + 1 := ⟨depthOf lv n - 1, by omega⟩
  obtain ⟨c, h1, h2, h3⟩ := K.t.chain i n hi
  have hlt : i < lv.length := by
    obtain ⟨L, hL, _⟩ := depthOf_some lv n i hi
    exact (List.getElem?_eq_some_iff.1 hL).1
  have hlv := K.lvl
  have hll := K.len
  have h4 := refChain_ev l lv (by omega) (by omega) (fun L hL => by have := K.Ll L hL; omega) (i + 1 + 0) n c (h2 0) (by omega)
  refine ⟨c, ?_, h4.2, by omega, by omega⟩
  unfold why_Chain.f
  have e1 : l.all okNeed = true := List.all_eq_true.2 K.ok
  have e2 : okNode ⟨n.f0, n.f1⟩ = true := hn
  have e3 : mayN ⟨n.f0, n.f1⟩ = true := hm
  rw [e1, e2, e3, K.may, if_pos (by simp; omega), if_neg (by simp), K.out]
  simp only [Option.bind_some]
  have e4 : lookM r ⟨n.f0, n.f1⟩ = some ((i + 1 : Nat) : Int) := by
    rw [lookM_eq, K.t.look, if_neg h0, hi]
  rw [e4]
  simp only
  have e5 : (((i + 1 : Nat) : Int)).toNat - 1 = i := by omega
  have e6 : farM r = fun y => (r.lookup y).getD 0 := by
    funext y
    unfold farM
    rw [lookM_eq]
  rw [e5, e6, h1]
  rfl
theorem Known.noChain {n : SNode} (hn : okNode n = true) (hm : mayN n = true) (h0 : depthOf lv n = 0) : why_Chain.f l n.f0 n.f1 = some ([], 11) := by
  have hll := K.len
  unfold why_Chain.f
  have e1 : l.all okNeed = true := List.all_eq_true.2 K.ok
  have e2 : okNode ⟨n.f0, n.f1⟩ = true := hn
  have e3 : mayN ⟨n.f0, n.f1⟩ = true := hm
  rw [e1, e2, e3, K.may, if_pos (by simp; omega), if_neg (by simp), K.out]
  simp only [Option.bind_some]
  have e4 : lookM r ⟨n.f0, n.f1⟩ = none := by
    rw [lookM_eq, K.t.look, if_pos h0]
  rw [e4]
theorem Known.badChain {n : SNode} (hn : okNode n = true) (hm : mayN n = false) : why_Chain.f l n.f0 n.f1 = some ([], 1) := by
  have hll := K.len
  unfold why_Chain.f
  have e1 : l.all okNeed = true := List.all_eq_true.2 K.ok
  have e2 : okNode ⟨n.f0, n.f1⟩ = true := hn
  have e3 : mayN ⟨n.f0, n.f1⟩ = false := hm
  rw [e1, e2, e3, if_pos (by simp; omega), if_pos (by simp)]
end
theorem bad_depths {l : List SNeed} (h1 : l.length ≤ 30) (h2 : ∀ x ∈ l, okNeed x = true) (h3 : l.any badNeed = true) : why_Depths.f l = some ([], 1) := by
  unfold why_Depths.f
  have e1 : l.all okNeed = true := List.all_eq_true.2 h2
  rw [e1, if_pos (by simp; omega), if_pos h3]
theorem bad_chain {l : List SNeed} (h1 : l.length ≤ 30) (h2 : ∀ x ∈ l, okNeed x = true) (h3 : l.any badNeed = true) {n : SNode} (hn : okNode n = true) : why_Chain.f l n.f0 n.f1 = some ([], 1) := by
  unfold why_Chain.f
  have e1 : l.all okNeed = true := List.all_eq_true.2 h2
  have e2 : okNode ⟨n.f0, n.f1⟩ = true := hn
  rw [e1, e2, h3, if_pos (by simp; omega), if_pos (by simp)]
theorem WhyTells_ev (l0 : List SNeed) (a b : ByteArray) : Ev (fun k => w19_WhyTells.f k l0 a b) true := by
  unfold w19_WhyTells.f
  refine Ev.bind (fewL_ev l0) (Ev.bindc (one_ev a b) ?_)
  have hlen := fewL_len l0
  have hok := fewL_ok l0
  generalize fewL l0 = l at hlen hok
  have hn : okNode ⟨few1 a, few1 b⟩ = true := fewN_ok ⟨a, b⟩
  generalize few1 a = p at hn
  generalize few1 b = v at hn
  have haw : w19_awake.f = some true := rfl
  have hmayL := refMayL_ev l hok (by omega)
  cases hb : l.any badNeed with
  | true =>
    rw [hb] at hmayL
    refine Ev.bindc (bad_depths hlen hok hb) (Ev.bindc (bad_chain hlen hok hb hn) (Ev.bind hmayL (Ev.neg (by simp) ?_)))
    exact Ev.pos (by simp) (Ev.pos (by simp) (Ev.pos (by simp) (Ev.pos (by simp) (Ev.bindc haw (Ev.some_ _)))))
  | false =>
    rw [hb] at hmayL
    obtain ⟨lv, r, K⟩ := Known.mk' hlen hok hb
    refine Ev.bindc K.progDepths ?_
    have hdl := K.deps_len
    have hd := deeps_ev (refDeps lv) (by omega)
    have hmn := refMayN_ev ⟨p, v⟩ hn
    cases hm : mayN ⟨p, v⟩ with
    | false =>
      rw [hm] at hmn
      refine Ev.bindc (K.badChain hn hm) (Ev.bind hmayL (Ev.pos (by simp) (Ev.bind K.depths (Ev.bind hd (Ev.pos (by simp) (Ev.succ ?_))))))
      simp only [w19_WhyTells.j0]
      exact Ev.neg (by simp) (Ev.bind hmn (Ev.neg (by simp) (Ev.pos (by simp) (Ev.pos (by simp) (Ev.bindc haw (Ev.some_ _))))))
    | true =>
      rw [hm] at hmn
      have hlv := K.lvl
      have hdep := refDepth_ev lv ⟨p, v⟩ (by omega) (fun L hL => by have := K.Ll L hL; omega)
      by_cases h0 : depthOf lv ⟨p, v⟩ = 0
      · refine Ev.bindc (K.noChain hn hm h0) (Ev.bind hmayL (Ev.pos (by simp) (Ev.bind K.depths (Ev.bind hd (Ev.pos (by simp) (Ev.succ ?_))))))
        simp only [w19_WhyTells.j0]
        exact Ev.neg (by simp) (Ev.bind hmn (Ev.pos (by simp) (Ev.bindc K.levels (Ev.bind hdep (Ev.pos (by omega) (Ev.pos (by simp) (Ev.pos (by simp) (Ev.bindc haw (Ev.some_ _)))))))))
      · obtain ⟨c, hc1, hc2, hc3, hc4⟩ := K.chain hn hm h0
        refine Ev.bindc hc1 (Ev.bind hmayL (Ev.pos (by simp) (Ev.bind K.depths (Ev.bind hd (Ev.pos (by simp) (Ev.succ ?_))))))
        simp only [w19_WhyTells.j0]
        have hsame := Ev.val (refSame_ev c c (by omega)) (show decide (c = c) = true from by simp)
        exact Ev.neg (by simp) (Ev.bind hmn (Ev.pos (by simp) (Ev.bindc K.levels (Ev.bind hdep (Ev.neg (by omega) (Ev.bind hc2 (Ev.bind hsame (Ev.pos (by simp) (Ev.pos (by simp) (Ev.bindc haw (Ev.some_ _)))))))))))
end Go.Proofs.YtjfcmkddeglghaaGreatDoor.G
end
section
namespace Go.Proofs.YtjfcmkddeglghaaGreatDoor.G
open Go.RowKit Go.ChangeShapes Go.WideShapes Go.Proofs.YtjfcmkddeglghaaGreatDoorW.PrintWords Go.Proofs.YtjfcmkddeglghaaGreatDoorW.PrintLast
set_option linter.unusedVariables false
set_option linter.unusedSimpArgs false
section
variable {H : Type} {enc : TypeId × Value → H} {w : World} {base : Nat} {spare : Nat → Bool} {held : Bool} {n : Nat} {cs : List Value} {y : DataW H × List MemPlace}
theorem und9 : Tryz.prog.underlying 9 = some .string := by kernel_rfl
theorem cells9 : Tryz.prog.cellsOf 9 = 1 := by kernel_rfl
theorem cells24 : Tryz.prog.cellsOf 24 = 2 := by kernel_rfl
theorem cells49 : Tryz.prog.cellsOf 49 = 4 := by kernel_rfl
theorem two_of {β : Type} {l : List β} (h : l.length = 2) : ∃ a b, l = [a, b] := by
  rcases l with _ | ⟨a, _ | ⟨b, _ | ⟨c, t⟩⟩⟩
  · simp at h
  · simp at h
  · exact ⟨a, b, rfl⟩
  · simp at h
theorem four_of {β : Type} {l : List β} (h : l.length = 4) : ∃ a b c d, l = [a, b, c, d] := by
  rcases l with _ | ⟨a, _ | ⟨b, _ | ⟨c, _ | ⟨d, _ | ⟨e, t⟩⟩⟩⟩⟩
  · simp at h
  · simp at h
  · simp at h
  · simp at h
  · exact ⟨a, b, c, d, rfl⟩
  · simp at h
set_option maxRecDepth 100000 in
theorem open_node (h : DataW.trod enc Tryz.prog w base spare held n 24 cs = some y) : ∃ x : S24, cs = [.string x.f0, .string x.f1] := by
  obtain ⟨xs, m, _, _, hl, hxs, hf⟩ := DataW.trod_struct Tryz.underlying24 h
  rw [cells24] at hl
  have hxs2 : xs.length = 2 := hxs
  have g0 : DataW.trod enc Tryz.prog w base spare held m 9 ((cs.drop 0).take (Tryz.prog.cellsOf 9)) = xs[0]? := hf 0 _ rfl
  have g1 : DataW.trod enc Tryz.prog w base spare held m 9 ((cs.drop 1).take (Tryz.prog.cellsOf 9)) = xs[1]? := hf 1 _ rfl
  clear hf hxs h
  obtain ⟨v0, v1, rfl⟩ := two_of hl
  obtain ⟨y0, y1, rfl⟩ := two_of hxs2
  rw [cells9] at g0 g1
  obtain ⟨s0, e0, _⟩ := DataW.trod_string und9 (show _ = some y0 from g0)
  obtain ⟨s1, e1, _⟩ := DataW.trod_string und9 (show _ = some y1 from g1)
  have e0' : [v0] = [Value.string s0] := e0
  have e1' : [v1] = [Value.string s1] := e1
  injection e0' with e0'
  injection e1' with e1'
  subst e0' e1'
  exact ⟨⟨s0, s1⟩, rfl⟩
set_option maxRecDepth 100000 in
theorem open_need (h : DataW.trod enc Tryz.prog w base spare held n 49 cs = some y) : ∃ x : S49, cs = [.string x.f0.f0, .string x.f0.f1, .string x.f1.f0, .string x.f1.f1] := by
  obtain ⟨xs, m, _, _, hl, hxs, hf⟩ := DataW.trod_struct Tryz.underlying49 h
  rw [cells49] at hl
  have hxs2 : xs.length = 2 := hxs
  have g0 : DataW.trod enc Tryz.prog w base spare held m 24 ((cs.drop 0).take (Tryz.prog.cellsOf 24)) = xs[0]? := hf 0 _ rfl
  have g1 : DataW.trod enc Tryz.prog w base spare held m 24 ((cs.drop 2).take (Tryz.prog.cellsOf 24)) = xs[1]? := hf 1 _ rfl
  clear hf hxs h
  obtain ⟨v0, v1, v2, v3, rfl⟩ := four_of hl
  obtain ⟨y0, y1, rfl⟩ := two_of hxs2
  rw [cells24] at g0 g1
  obtain ⟨x0, e0⟩ := open_node (show _ = some y0 from g0)
  obtain ⟨x1, e1⟩ := open_node (show _ = some y1 from g1)
  have e0' : [v0, v1] = [Value.string x0.f0, Value.string x0.f1] := e0
  have e1' : [v2, v3] = [Value.string x1.f0, Value.string x1.f1] := e1
  injection e0' with e2 e3
  injection e3 with e3
  injection e1' with e4 e5
  injection e5 with e5
  subst e2 e3 e4 e5
  exact ⟨⟨x0, x1⟩, rfl⟩
theorem C_of_trod {α : Type} (d : Kd α) (encE : α → List Value) {t e : TypeId} (ht : Tryz.prog.underlying t = some (.slice e)) (hc : Tryz.prog.cellsOf e = d.sz) (hK : ∀ w x, d.K w x (encE x))
    (ho : ∀ (n : Nat) (cs : List Value) (y : DataW H × List MemPlace), DataW.trod enc Tryz.prog w base spare held n e cs = some y → ∃ x, cs = encE x)
    {A : Option Addr} {len cap : Nat} {dd : DataW H} {ps : List MemPlace} (h : DataW.Trod enc Tryz.prog w base spare held t (.slice A len cap) dd ps) : ∃ l : List α, l.length = len ∧ len ≤ cap ∧ d.C w A len l := by
  obtain ⟨fuel, hf⟩ := h
  rcases Go.Deep.open_slice ht hf with ⟨hcs, _⟩ | ⟨a, len', cap', m, n, D, Pl, hcs, hb, hl, hm, hmm, _, hx⟩
  · simp [Value.cells] at hcs
    obtain ⟨rfl, rfl, rfl⟩ := hcs
    exact ⟨[], rfl, Nat.le_refl _, rfl, by omega, fun h => by omega⟩
  · simp [Value.cells] at hcs
    obtain ⟨rfl, rfl, rfl⟩ := hcs
    have hlm : len ≤ m := by rw [hmm]; split <;> omega
    have hx' : ∀ i, i < len → ∃ x : α, ∀ j u, (encE x)[j]? = some u → w.cell? (a.add (i * d.sz + j)) = some u := by
      intro i hi
      obtain ⟨cs', h1, h2⟩ := hx i (by omega)
      obtain ⟨x, rfl⟩ := ho _ _ _ h2
      refine ⟨x, fun j u hu => ?_⟩
      obtain ⟨_, hlen, hcell⟩ := World.cells?_some h1
      have hj : j < (encE x).length := (List.getElem?_eq_some_iff.1 hu).1
      have := hcell j (by omega)
      rw [Go.Deep.add_add, hc] at this
      rw [this]
      exact hu
    have hex : ∃ l : List α, l.length = len ∧ ∀ i x, l[i]? = some x → ∀ j u, (encE x)[j]? = some u → w.cell? (a.add (i * d.sz + j)) = some u := by
      have : ∀ k, k ≤ len → ∃ l : List α, l.length = k ∧ ∀ i x, l[i]? = some x → ∀ j u, (encE x)[j]? = some u → w.cell? (a.add (i * d.sz + j)) = some u := by
        intro k
        induction k with
        | zero => intro _; exact ⟨[], rfl, fun i x h => by simp at h⟩
        | succ k ih =>
          intro hk
          obtain ⟨l, e1, e2⟩ := ih (by omega)
          obtain ⟨x, hx2⟩ := hx' k (by omega)
          refine ⟨l ++ [x], by simp [e1], fun i z hz => ?_⟩
          by_cases hi : i < l.length
          · rw [List.getElem?_append_left hi] at hz
            exact e2 i z hz
          · rw [List.getElem?_append_right (by omega)] at hz
            have hi0 : i - l.length = 0 := by
              have := (List.getElem?_eq_some_iff.1 hz).1
              simp at this
              omega
            rw [hi0] at hz
            simp at hz
            subst hz
            have : i = k := by omega
            rw [this]
            exact hx2
      exact this len (Nat.le_refl _)
    obtain ⟨l, e1, e2⟩ := hex
    refine ⟨l, e1, hl, e1, by unfold maxLen at hm; omega, fun _ => ⟨a, rfl, fun j p hj => ⟨encE p, d.K_len (hK w p), hK w p, e2 j p hj⟩⟩⟩
set_option maxRecDepth 100000 in
theorem C_needs {A : Option Addr} {len cap : Nat} {dd : DataW H} {ps : List MemPlace} (h : DataW.Trod enc Tryz.prog w base spare held 22 (.slice A len cap) dd ps) : ∃ l : List S49, l.length = len ∧ len ≤ cap ∧ Kd.C k49 w A len l :=
  C_of_trod k49 (fun x => [.string x.f0.f0, .string x.f0.f1, .string x.f1.f0, .string x.f1.f1]) Tryz.underlying22 cells49 (fun w x => k49.K_of_M (k49_mkM w 0 (fun _ => True) x)) (fun n cs y h => open_need h) h
set_option maxRecDepth 100000 in
theorem agg_node {v : Value} {dd : DataW H} {ps : List MemPlace} {r : Reach} {b0 : Nat} (hv : Value.okWide Tryz.prog w r b0 24 v) (h : DataW.Trod enc Tryz.prog w base spare held 24 v dd ps) : ∃ x : S24, v = .agg #[.string x.f0, .string x.f1] := by
  obtain ⟨cs, rfl, _⟩ := okWide_struct Tryz.underlying24 hv
  obtain ⟨fuel, hf⟩ := h
  obtain ⟨x, hx⟩ := open_node hf
  refine ⟨x, ?_⟩
  have : cs.toList = [.string x.f0, .string x.f1] := hx
  rw [← Array.toArray_toList (xs := cs), this]
end
end Go.Proofs.YtjfcmkddeglghaaGreatDoor.G
end
