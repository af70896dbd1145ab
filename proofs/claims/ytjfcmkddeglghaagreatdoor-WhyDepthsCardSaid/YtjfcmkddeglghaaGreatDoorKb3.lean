/- For every list of needs WhyDepths returns true, as the card says: how far a node is away is how long its chain is; what the root needs is 1 away; no need leads more than one further. Condition: when the call begins, utf8.acceptRanges and utf8.first hold what Go's own text lays. (part 3 of its proof) -/
import Derived.Deep.LoopGhost
import Derived.Deep.OwnRows
import Derived.Deep.WholeRow
import Derived.Laws.MakeOwn
import Derived.Laws.ResultCell
import Derived.Laws.Strings3
import Derived.Lib.Bytealg
import Derived.Lib.Hide
import Derived.Lib.IndexBytes
import Derived.Lib.OthersKept
import Derived.Lib.Split
import Derived.Lib.SplitLaws
import Derived.Lib.Strings
import Derived.Lib.Walk
import Derived.Shelf.Abstract
import Derived.Shelf.Strings.IndexAnyAll
import Derived.Shelf.Strings.SplitCore
import Derived.Test.YtjfcmkddeglghaaGreatDoorProg
import Derived.Test.YtjfcmkddeglghaaGreatDoorKb1
import Derived.Test.YtjfcmkddeglghaaGreatDoorKb2
section
namespace Go.Proofs.YtjfcmkddeglghaaGreatDoor.G
open Go.RowKit Go.Proofs.YtjfcmkddeglghaaGreatDoorW.PrintWords Go.Proofs.YtjfcmkddeglghaaGreatDoorW.PrintLast Go.Proofs.YtjfcmkddeglghaaGreatDoorW.PrintMore
attribute [local go_sem] max2_int min2_int max_two min_two max_three min_three max_four min_four
set_option linter.unusedVariables false
set_option linter.unusedSimpArgs false
mutual
def r03_Cmp.j0 : Nat → Int → Int → Bool → ByteArray → ByteArray → ByteArray → List ByteArray → ByteArray → ByteArray → ByteArray → List ByteArray → Option (Int)
 | 0, _, _, _, _, _, _, _, _, _, _, _ => none
 | k + 1, x12, x13, x61, x304000, x304001, x304002, x304003, x312000, x312001, x312002, x312003 => if x61 = true then (some 0) else (if x12 = 0 then (some 1) else (if x13 = 0 then (some (-1)) else (r03_Cmp.l0 k x12 x13 0 x304000 x304001 x304002 x304003 x312000 x312001 x312002 x312003)))
def r03_Cmp.l0 : Nat → Int → Int → Int → ByteArray → ByteArray → ByteArray → List ByteArray → ByteArray → ByteArray → ByteArray → List ByteArray → Option (Int)
 | 0, _, _, _, _, _, _, _, _, _, _, _ => none
 | k + 1, x12, x13, x14, x304000, x304001, x304002, x304003, x312000, x312001, x312002, x312003 => if x14 < x12 then (r03_Cmp.j2 k x12 x13 x14 (decide (x14 < x13)) x304000 x304001 x304002 x304003 x312000 x312001 x312002 x312003) else (r03_Cmp.j2 k x12 x13 x14 false x304000 x304001 x304002 x304003 x312000 x312001 x312002 x312003)
def r03_Cmp.j2 : Nat → Int → Int → Int → Bool → ByteArray → ByteArray → ByteArray → List ByteArray → ByteArray → ByteArray → ByteArray → List ByteArray → Option (Int)
 | 0, _, _, _, _, _, _, _, _, _, _, _, _ => none
 | k + 1, x12, x13, x14, x73, x304000, x304001, x304002, x304003, x312000, x312001, x312002, x312003 => if x73 = true then (if 0 ≤ x14 then (if x14 < (x304003.length : Int) then (if x14 < (x312003.length : Int) then ((r03_words.f k (rdOf ByteArray.empty x304003 x14) (rdOf ByteArray.empty x312003 x14)).bind fun t317 => (if t317 = 0 then (r03_Cmp.l0 k x12 x13 (wrap64 (x14 + 1)) x304000 x304001 x304002 x304003 x312000 x312001 x312002 x312003) else (some t317))) else (none)) else (none)) else (none)) else (if x12 < x13 then (some (-1)) else (if x12 > x13 then (some 1) else (some 0)))
end
def r03_Cmp.f (k : Nat) (a0 : ByteArray) (a1 : ByteArray) : Option (Int) := (r03_Split.f k a0).bind fun bt296 => ((r03_Split.f k a1).bind fun bt304 => ((r02_Cmp.f k bt296.1 bt304.1).bind fun t312 => (if t312 = 0 then ((r02_Cmp.f k bt296.2.1 bt304.2.1).bind fun t313 => (if t313 = 0 then ((r02_Cmp.f k bt296.2.2.1 bt304.2.2.1).bind fun t314 => (if t314 = 0 then (if (bt296.2.2.2.1.length : Int) = 0 then (r03_Cmp.j0 k (bt296.2.2.2.1.length : Int) (bt304.2.2.2.1.length : Int) ((bt304.2.2.2.1.length : Int) == 0) bt296.1 bt296.2.1 bt296.2.2.1 bt296.2.2.2.1 bt304.1 bt304.2.1 bt304.2.2.1 bt304.2.2.2.1) else (r03_Cmp.j0 k (bt296.2.2.2.1.length : Int) (bt304.2.2.2.1.length : Int) false bt296.1 bt296.2.1 bt296.2.2.1 bt296.2.2.2.1 bt304.1 bt304.2.1 bt304.2.2.1 bt304.2.2.2.1)) else (some t314))) else (some t313))) else (some t312))))
def r03_Cmp.T12 : Bool × List (List Nat × List Nat) := (true, [([], []), ([0], [0]), ([1], [1]), ([], []), ([3], [3]), ([4], [4]), ([2, 0, 1, 2], [2]), ([5, 6, 0, 1, 2, 3, 4, 5, 6], [5])])
def r03_Cmp.B12 : List Nat := [0, 1, 3, 0, 8, 24, 7, 127]
theorem r03_Cmp.tab12 : rtab .any (opsOf Tryz.f83 12) = r03_Cmp.T12 := by kernel_rfl
theorem r03_Cmp.bits12 : waitsOk r03_Cmp.T12.2 r03_Cmp.B12 = true := by kernel_rfl
def r03_Cmp.T22 : Bool × List (List Nat × List Nat) := (true, [([], []), ([0], [0]), ([], []), ([1, 2], [1, 2]), ([3], [3]), ([], []), ([5], [5]), ([], []), ([6, 7], [6, 7]), ([8], [8]), ([4, 9], [4, 9]), ([10, 10, 0, 1, 2, 3, 4, 5, 6, 7, 8, 9, 10], [10])])
def r03_Cmp.B22 : List Nat := [0, 1, 0, 7, 15, 0, 32, 0, 224, 480, 1023, 2047]
theorem r03_Cmp.tab22 : rtab .any (opsOf Tryz.f83 22) = r03_Cmp.T22 := by kernel_rfl
theorem r03_Cmp.bits22 : waitsOk r03_Cmp.T22.2 r03_Cmp.B22 = true := by kernel_rfl
set_option maxHeartbeats 8000000 in
set_option maxRecDepth 100000 in
theorem r03_Cmp.calls (k : Nat) (a0 : ByteArray) (a1 : ByteArray) (r : Int) (w : World) (h : r03_Cmp.f k a0 a1 = some r) :
  Calls Tryz.prog 83 #[.string a0, .string a1] w fun e w' => e = .returned (.int .i64 r) ∧ Below w.heap.size w w' := by
 have hu146 := Tryz.underlying146
 have HB := Aside0.mk (Below.refl w.heap.size w)
 have H : ((r03_Split.f k a0).bind fun bt296 => ((r03_Split.f k a1).bind fun bt304 => ((r02_Cmp.f k bt296.1 bt304.1).bind fun t312 => (if t312 = 0 then ((r02_Cmp.f k bt296.2.1 bt304.2.1).bind fun t313 => (if t313 = 0 then ((r02_Cmp.f k bt296.2.2.1 bt304.2.2.1).bind fun t314 => (if t314 = 0 then (if (bt296.2.2.2.1.length : Int) = 0 then (r03_Cmp.j0 k (bt296.2.2.2.1.length : Int) (bt304.2.2.2.1.length : Int) ((bt304.2.2.2.1.length : Int) == 0) bt296.1 bt296.2.1 bt296.2.2.1 bt296.2.2.2.1 bt304.1 bt304.2.1 bt304.2.2.1 bt304.2.2.2.1) else (r03_Cmp.j0 k (bt296.2.2.2.1.length : Int) (bt304.2.2.2.1.length : Int) false bt296.1 bt296.2.1 bt296.2.2.1 bt296.2.2.2.1 bt304.1 bt304.2.1 bt304.2.2.1 bt304.2.2.2.1)) else (some t314))) else (some t313))) else (some t312))))) = some r := h
 clear h
 obtain ⟨⟨t296, t297, t298, t299, t302⟩, A3, H⟩ := bo H
 replace H : ((r03_Split.f k a1).bind fun bt304 => ((r02_Cmp.f k t296 bt304.1).bind fun t312 => (if t312 = 0 then ((r02_Cmp.f k t297 bt304.2.1).bind fun t313 => (if t313 = 0 then ((r02_Cmp.f k t298 bt304.2.2.1).bind fun t314 => (if t314 = 0 then (if (t299.length : Int) = 0 then (r03_Cmp.j0 k (t299.length : Int) (bt304.2.2.2.1.length : Int) ((bt304.2.2.2.1.length : Int) == 0) t296 t297 t298 t299 bt304.1 bt304.2.1 bt304.2.2.1 bt304.2.2.2.1) else (r03_Cmp.j0 k (t299.length : Int) (bt304.2.2.2.1.length : Int) false t296 t297 t298 t299 bt304.1 bt304.2.1 bt304.2.2.1 bt304.2.2.2.1)) else (some t314))) else (some t313))) else (some t312)))) = some r := H
 obtain ⟨⟨t304, t305, t306, t307, t310⟩, A4, H⟩ := bo H
 replace H : ((r02_Cmp.f k t296 t304).bind fun t312 => (if t312 = 0 then ((r02_Cmp.f k t297 t305).bind fun t313 => (if t313 = 0 then ((r02_Cmp.f k t298 t306).bind fun t314 => (if t314 = 0 then (if (t299.length : Int) = 0 then (r03_Cmp.j0 k (t299.length : Int) (t307.length : Int) ((t307.length : Int) == 0) t296 t297 t298 t299 t304 t305 t306 t307) else (r03_Cmp.j0 k (t299.length : Int) (t307.length : Int) false t296 t297 t298 t299 t304 t305 t306 t307)) else (some t314))) else (some t313))) else (some t312))) = some r := H
 obtain ⟨t312, A5, H⟩ := bo H
 by_cases c6 : t312 = 0
 ·rw [if_pos c6] at H
  have c6b0 := beq_iff_eq.mpr c6
  have c6b1 := bne_eq_false_iff_eq.mpr c6
  clear c6
  obtain ⟨t313, A7, H⟩ := bo H
  by_cases c8 : t313 = 0
  ·rw [if_pos c8] at H
   have c8b0 := beq_iff_eq.mpr c8
   have c8b1 := bne_eq_false_iff_eq.mpr c8
   clear c8
   obtain ⟨t314, A9, H⟩ := bo H
   by_cases c10 : t314 = 0
   ·rw [if_pos c10] at H
    have c10b0 := beq_iff_eq.mpr c10
    have c10b1 := bne_eq_false_iff_eq.mpr c10
    clear c10
    have HC11 := Aside0.mk H
    clear H
    go_enter Tryz.func83, Tryz.ntmps83
    try go_wp2_with (first | ((with_reducible refine gate_callee (f := 116) rfl ?_); refine gl 18 Tryz.func116 #[.string a0] ?_; (with_reducible refine (r03_Split.calls k a0 t296 t297 t298 t299 t302 _ A3.out).mono ?_); rintro e w12 ⟨v300, rfl, ho0, hb⟩; refine ⟨_, rfl, ?_⟩; have n0_ := Aside0.mk (Kd.R_lower ho0 (bz HB)); have n1_ := bs HB hb; revert n0_ n1_; clear HB; intro HO301 HB; (try clear hb); (try clear ho0)) | ((with_reducible refine gate_dst (N := 5) rfl ?_); refine box_event ?hg (N := 5) ?hd (cs := #[.string (⟨#[]⟩ : ByteArray), .string (⟨#[]⟩ : ByteArray), .string (⟨#[]⟩ : ByteArray), .slice none 0 0]) (t := 146) ?hr ?_; (case hd => rfl); (case hg => rfl); (case hr => first | (go_simp; done) | (go_simp; rfl)); intro gb303 hg w13 hbox hb; have n0_ := rb HO301 hb; have n1_ := bs HB hb; have n2_ := Aside0.mk (hbox); have n3_ := gz hg HB; have n4_ := gz hg HB; revert n0_ n1_ n2_ n3_ n4_; clear HO301 HB; intro HO301 HB BK303 GW303 GE303; clear hb hbox hg; have hcz14_0 := bc BK303 0; have hcz14_1 := bc BK303 1; have hcz14_2 := bc BK303 2; have hcz14_3 := bc BK303 3; have hfz14_0 := bf BK303 0; have hfz14_1 := bf BK303 1; have hfz14_2 := bf BK303 2; have hfz14_3 := bf BK303 3; obtain ⟨Ao15, co15, eo15⟩ := Kd.R_slice HO301.out; subst eo15) | ((with_reducible refine gate_callee (f := 116) rfl ?_); refine gl 23 Tryz.func116 #[.string a1] ?_; (with_reducible refine (r03_Split.calls k a1 t304 t305 t306 t307 t310 _ A4.out).mono ?_); rintro e w16 ⟨v308, rfl, ho0, hb⟩; refine ⟨_, rfl, ?_⟩; have n0_ := Aside0.mk (Kd.R_elder' (by (with_reducible repeat (first | apply Kd.R_alloc | apply Kd.R_drewN | apply Kd.R_drew)); exact (Kd.R_mono (Kd.R_far (p := ⟨gb303, 3, none⟩) (Kd.R_far (p := ⟨gb303, 2, none⟩) (Kd.R_far (p := ⟨gb303, 1, none⟩) (Kd.R_far (p := ⟨gb303, 0, none⟩) (Kd.R_types HO301.out BK303.out (by decide)) (fun _ hk => hk.2) (.string t296)) (fun _ hk => hk.2) (.string t297)) (fun _ hk => hk.2) (.string t298)) (fun _ hk => hk.2) (.slice Ao15 t299.length co15)) (fun _ h_ => h_.1))) (Kd.R_base ho0) hb); have n1_ := Aside0.mk (Kd.R_lower (Kd.R_new' ho0 (Kd.R_lt (by (with_reducible repeat (first | apply Kd.R_alloc | apply Kd.R_drewN | apply Kd.R_drew)); exact (Kd.R_mono (Kd.R_far (p := ⟨gb303, 3, none⟩) (Kd.R_far (p := ⟨gb303, 2, none⟩) (Kd.R_far (p := ⟨gb303, 1, none⟩) (Kd.R_far (p := ⟨gb303, 0, none⟩) (Kd.R_types HO301.out BK303.out (by decide)) (fun _ hk => hk.2) (.string t296)) (fun _ hk => hk.2) (.string t297)) (fun _ hk => hk.2) (.string t298)) (fun _ hk => hk.2) (.slice Ao15 t299.length co15)) (fun _ h_ => h_.1))))) (bz HB)); have n2_ := Aside0.mk (blk_below (g := gb303) (o := .cells #[.string t296, .string t297, .string t298, .slice Ao15 t299.length co15] 146 (0, 0)) (by (with_reducible repeat (first | refine blk_drewN ?_ _ | refine blk_drew ?_ | refine blk_alloc ?_ _)); refine blk_put (cs := #[.string t296, .string t297, .string t298, .slice none 0 0]) ?_ 3 _ rfl; (with_reducible repeat (first | refine blk_drewN ?_ _ | refine blk_drew ?_ | refine blk_alloc ?_ _)); refine blk_put (cs := #[.string t296, .string t297, .string (⟨#[]⟩ : ByteArray), .slice none 0 0]) ?_ 2 _ rfl; (with_reducible repeat (first | refine blk_drewN ?_ _ | refine blk_drew ?_ | refine blk_alloc ?_ _)); refine blk_put (cs := #[.string t296, .string (⟨#[]⟩ : ByteArray), .string (⟨#[]⟩ : ByteArray), .slice none 0 0]) ?_ 1 _ rfl; (with_reducible repeat (first | refine blk_drewN ?_ _ | refine blk_drew ?_ | refine blk_alloc ?_ _)); refine blk_put (cs := #[.string (⟨#[]⟩ : ByteArray), .string (⟨#[]⟩ : ByteArray), .string (⟨#[]⟩ : ByteArray), .slice none 0 0]) ?_ 0 _ rfl; (with_reducible repeat (first | refine blk_drewN ?_ _ | refine blk_drew ?_ | refine blk_alloc ?_ _)); exact BK303.out) hb); have n3_ := bs HB hb; revert n0_ n1_ n2_ n3_; clear HO301 BK303 HB; intro HO301 HO309 BK303 HB; (try clear hb); (try clear ho0)) | ((with_reducible refine gate_dst (N := 7) rfl ?_); refine box_event ?hg (N := 7) ?hd (cs := #[.string (⟨#[]⟩ : ByteArray), .string (⟨#[]⟩ : ByteArray), .string (⟨#[]⟩ : ByteArray), .slice none 0 0]) (t := 146) ?hr ?_; (case hd => rfl); (case hg => rfl); (case hr => first | (go_simp; done) | (go_simp; rfl)); intro gb311 hg w17 hbox hb; have n0_ := rb HO301 hb; have n1_ := rb HO309 hb; have n2_ := bb BK303 hb; have n3_ := bs HB hb; have n4_ := Aside0.mk (hbox); have n5_ := gz hg HB; have n6_ := gz hg HB; have n7_ := Aside0.mk ((by rw [hg]; exact Nat.ne_of_lt (blk_lt (g := gb303) (o := .cells #[.string t296, .string t297, .string t298, .slice Ao15 t299.length co15] 146 (0, 0)) (bk BK303)) : gb303 ≠ gb311)); have n8_ := Aside0.mk ((by rw [hg]; exact Nat.ne_of_gt (blk_lt (g := gb303) (o := .cells #[.string t296, .string t297, .string t298, .slice Ao15 t299.length co15] 146 (0, 0)) (bk BK303)) : gb311 ≠ gb303)); revert n0_ n1_ n2_ n3_ n4_ n5_ n6_ n7_ n8_; clear HO301 HO309 BK303 HB; intro HO301 HO309 BK303 HB BK311 GW311 GE311 NB303_311 NB311_303; clear hb hbox hg; have hnb18 := NB311_303.out; have hnc18 := NB303_311.out; have hcz19_0 := bc BK311 0; have hcz19_1 := bc BK311 1; have hcz19_2 := bc BK311 2; have hcz19_3 := bc BK311 3; have hfz19_0 := bf BK311 0; have hfz19_1 := bf BK311 1; have hfz19_2 := bf BK311 2; have hfz19_3 := bf BK311 3; obtain ⟨Ao20, co20, eo20⟩ := Kd.R_slice HO309.out; subst eo20; have hcz21_0 := bc BK303 0; have hcz21_1 := bc BK303 1; have hcz21_2 := bc BK303 2; have hcz21_3 := bc BK303 3; have hfz21_0 := bf BK303 0; have hfz21_1 := bf BK303 1; have hfz21_2 := bf BK303 2; have hfz21_3 := bf BK303 3) | ((with_reducible refine gate_callee (f := 117) rfl ?_); refine gl 30 Tryz.func117 #[.string t296, .string t304] ?_; (with_reducible refine (r02_Cmp.calls k t296 t304 t312 _ A5.out).mono ?_); rintro e w22 ⟨rfl, hb⟩; refine ⟨_, rfl, ?_⟩; have n0_ := Aside0.mk (Kd.R_below (by (with_reducible repeat (first | apply Kd.R_alloc | apply Kd.R_drewN | apply Kd.R_drew)); exact (Kd.R_mono (Kd.R_far (p := ⟨gb311, 3, none⟩) (Kd.R_far (p := ⟨gb311, 2, none⟩) (Kd.R_far (p := ⟨gb311, 1, none⟩) (Kd.R_far (p := ⟨gb311, 0, none⟩) (Kd.R_types HO301.out BK311.out (by decide)) (fun _ hk => hk.2) (.string t304)) (fun _ hk => hk.2) (.string t305)) (fun _ hk => hk.2) (.string t306)) (fun _ hk => hk.2) (.slice Ao20 t307.length co20)) (fun _ h_ => h_.1))) hb); have n1_ := Aside0.mk (Kd.R_below (by (with_reducible repeat (first | apply Kd.R_alloc | apply Kd.R_drewN | apply Kd.R_drew)); exact (Kd.R_mono (Kd.R_far (p := ⟨gb311, 3, none⟩) (Kd.R_far (p := ⟨gb311, 2, none⟩) (Kd.R_far (p := ⟨gb311, 1, none⟩) (Kd.R_far (p := ⟨gb311, 0, none⟩) (Kd.R_types HO309.out BK311.out (by decide)) (fun _ hk => hk.2) (.string t304)) (fun _ hk => hk.2) (.string t305)) (fun _ hk => hk.2) (.string t306)) (fun _ hk => hk.2) (.slice Ao20 t307.length co20)) (fun _ h_ => h_.1))) hb); have n2_ := Aside0.mk (blk_below (g := gb303) (o := .cells #[.string t296, .string t297, .string t298, .slice Ao15 t299.length co15] 146 (0, 0)) (by (with_reducible repeat (first | refine blk_drewN ?_ _ | refine blk_drew ?_ | refine blk_alloc ?_ _)); refine blk_far ?_ NB303_311.out _; (with_reducible repeat (first | refine blk_drewN ?_ _ | refine blk_drew ?_ | refine blk_alloc ?_ _)); refine blk_far ?_ NB303_311.out _; (with_reducible repeat (first | refine blk_drewN ?_ _ | refine blk_drew ?_ | refine blk_alloc ?_ _)); refine blk_far ?_ NB303_311.out _; (with_reducible repeat (first | refine blk_drewN ?_ _ | refine blk_drew ?_ | refine blk_alloc ?_ _)); refine blk_far ?_ NB303_311.out _; (with_reducible repeat (first | refine blk_drewN ?_ _ | refine blk_drew ?_ | refine blk_alloc ?_ _)); exact BK303.out) hb); have n3_ := Aside0.mk (blk_below (g := gb311) (o := .cells #[.string t304, .string t305, .string t306, .slice Ao20 t307.length co20] 146 (0, 0)) (by (with_reducible repeat (first | refine blk_drewN ?_ _ | refine blk_drew ?_ | refine blk_alloc ?_ _)); refine blk_put (cs := #[.string t304, .string t305, .string t306, .slice none 0 0]) ?_ 3 _ rfl; (with_reducible repeat (first | refine blk_drewN ?_ _ | refine blk_drew ?_ | refine blk_alloc ?_ _)); refine blk_put (cs := #[.string t304, .string t305, .string (⟨#[]⟩ : ByteArray), .slice none 0 0]) ?_ 2 _ rfl; (with_reducible repeat (first | refine blk_drewN ?_ _ | refine blk_drew ?_ | refine blk_alloc ?_ _)); refine blk_put (cs := #[.string t304, .string (⟨#[]⟩ : ByteArray), .string (⟨#[]⟩ : ByteArray), .slice none 0 0]) ?_ 1 _ rfl; (with_reducible repeat (first | refine blk_drewN ?_ _ | refine blk_drew ?_ | refine blk_alloc ?_ _)); refine blk_put (cs := #[.string (⟨#[]⟩ : ByteArray), .string (⟨#[]⟩ : ByteArray), .string (⟨#[]⟩ : ByteArray), .slice none 0 0]) ?_ 0 _ rfl; (with_reducible repeat (first | refine blk_drewN ?_ _ | refine blk_drew ?_ | refine blk_alloc ?_ _)); exact BK311.out) hb); have n4_ := bs HB hb; revert n0_ n1_ n2_ n3_ n4_; clear HO301 HO309 BK303 BK311 HB; intro HO301 HO309 BK303 BK311 HB; (try clear hb); have hcz23_0 := bc BK303 0; have hcz23_1 := bc BK303 1; have hcz23_2 := bc BK303 2; have hcz23_3 := bc BK303 3; have hfz23_0 := bf BK303 0; have hfz23_1 := bf BK303 1; have hfz23_2 := bf BK303 2; have hfz23_3 := bf BK303 3; have hcz24_0 := bc BK311 0; have hcz24_1 := bc BK311 1; have hcz24_2 := bc BK311 2; have hcz24_3 := bc BK311 3; have hfz24_0 := bf BK311 0; have hfz24_1 := bf BK311 1; have hfz24_2 := bf BK311 2; have hfz24_3 := bf BK311 3) | ((with_reducible refine gate_callee (f := 117) rfl ?_); refine gl 38 Tryz.func117 #[.string t297, .string t305] ?_; (with_reducible refine (r02_Cmp.calls k t297 t305 t313 _ A7.out).mono ?_); rintro e w25 ⟨rfl, hb⟩; refine ⟨_, rfl, ?_⟩; have n0_ := rb HO301 hb; have n1_ := rb HO309 hb; have n2_ := bb BK303 hb; have n3_ := bb BK311 hb; have n4_ := bs HB hb; revert n0_ n1_ n2_ n3_ n4_; clear HO301 HO309 BK303 BK311 HB; intro HO301 HO309 BK303 BK311 HB; (try clear hb); have hcz26_0 := bc BK303 0; have hcz26_1 := bc BK303 1; have hcz26_2 := bc BK303 2; have hcz26_3 := bc BK303 3; have hfz26_0 := bf BK303 0; have hfz26_1 := bf BK303 1; have hfz26_2 := bf BK303 2; have hfz26_3 := bf BK303 3; have hcz27_0 := bc BK311 0; have hcz27_1 := bc BK311 1; have hcz27_2 := bc BK311 2; have hcz27_3 := bc BK311 3; have hfz27_0 := bf BK311 0; have hfz27_1 := bf BK311 1; have hfz27_2 := bf BK311 2; have hfz27_3 := bf BK311 3) | ((with_reducible refine gate_callee (f := 117) rfl ?_); refine gl 46 Tryz.func117 #[.string t298, .string t306] ?_; (with_reducible refine (r02_Cmp.calls k t298 t306 t314 _ A9.out).mono ?_); rintro e w28 ⟨rfl, hb⟩; refine ⟨_, rfl, ?_⟩; have n0_ := rb HO301 hb; have n1_ := rb HO309 hb; have n2_ := bb BK303 hb; have n3_ := bb BK311 hb; have n4_ := bs HB hb; revert n0_ n1_ n2_ n3_ n4_; clear HO301 HO309 BK303 BK311 HB; intro HO301 HO309 BK303 BK311 HB; (try clear hb)))
    have n0_ := Aside0.mk (Kd.R_drew HO301.out)
    have n1_ := Aside0.mk (Kd.R_drew HO309.out)
    have n2_ := Aside0.mk (blk_drew BK303.out)
    have n3_ := Aside0.mk (blk_drew BK311.out)
    have n4_ := Aside0.mk (below_drew1 HB.out)
    revert n0_ n1_ n2_ n3_ n4_
    clear HO301 HO309 BK303 BK311 HB
    intro HO301 HO309 BK303 BK311 HB
    refine start_ (n := 8) (S := fun w' => w'.cell? ⟨gb303, 0, none⟩ = some (.string t296) ∧ w'.cell? ⟨gb303, 1, none⟩ = some (.string t297) ∧ w'.cell? ⟨gb303, 2, none⟩ = some (.string t298) ∧ w'.cell? ⟨gb303, 3, none⟩ = some (.slice Ao15 t299.length co15) ∧ w'.cell? ⟨gb311, 0, none⟩ = some (.string t304) ∧ w'.cell? ⟨gb311, 1, none⟩ = some (.string t305) ∧ w'.cell? ⟨gb311, 2, none⟩ = some (.string t306) ∧ w'.cell? ⟨gb311, 3, none⟩ = some (.slice Ao20 t307.length co20)) (ds := []) #[false, false, false, false, false, false, false, false] (by kernel_rfl) rfl rfl ⟨bc BK303 0, bc BK303 1, bc BK303 2, bc BK303 3, bc BK311 0, bc BK311 1, bc BK311 2, bc BK311 3⟩ (fun hHeld => ?_); refine with_tabW r03_Cmp.tab12 r03_Cmp.bits12 (fun HT_ HW_ => ?_)
    generalize w28.drew = w29 at HO301 HO309 BK303 BK311 HB hHeld ⊢
    refine pu 0 50 ?_
    refine pu 3 53 ?_
    refine tk 1 51 ?_
    refine pu 2 52 ?_
    refine pu 6 12 ?_
    refine tk 4 54 ?_
    refine pu 5 55 ?_
    refine pu 7 13 ?_
    refine dq ?_
    go_upto_region 13 with (fail)
    go_cut [61] (fun v61 wc => ∃ (kq : Nat) (x61_10 : Bool), v61 = .bool x61_10 ∧ Aside0 (r03_Cmp.j0 kq (t299.length : Int) (t307.length : Int) x61_10 t296 t297 t298 t299 t304 t305 t306 t307 = some r) ∧ Aside0 (kq ≤ k) ∧ Aside0 (Kd.R Kd.string 9 wc w.heap.size (fun k_ => some k_ ≠ ((.slice Ao20 t307.length co20) : Value).ownBlock) (.slice Ao15 t299.length co15) t299) ∧ Aside0 (Kd.R Kd.string 9 wc w.heap.size (fun k_ => some k_ ≠ ((.slice Ao15 t299.length co15) : Value).ownBlock) (.slice Ao20 t307.length co20) t307) ∧ Aside0 (wc.heap[gb303]? = some (.cells #[.string t296, .string t297, .string t298, (.slice Ao15 t299.length co15)] 146 (0, 0))) ∧ Aside0 (wc.heap[gb311]? = some (.cells #[.string t304, .string t305, .string t306, (.slice Ao20 t307.length co20)] 146 (0, 0))) ∧ Aside0 (Below w.heap.size w wc))
    case first =>
     have H := HC11.out
     clear HC11
     by_cases c30 : (t299.length : Int) = 0
     ·rw [if_pos c30] at H
      have c30b0 := beq_iff_eq.mpr c30
      have c30b1 := bne_eq_false_iff_eq.mpr c30
      clear c30
      (first | rw [c30b0] | (simp only [i64_w, i32_w]; rw [c30b0]) | skip)
      have H' := Aside0.mk H
      clear H
      go_wp2
      go_meet
      case rel => exact ⟨_, (((t307.length : Int) == 0)), (by first | rfl | (simp; done) | (simp [*]; done)), H', ⟨by first | omega | exact Nat.le_refl _⟩, ⟨by (with_reducible repeat (first | apply Kd.R_alloc | apply Kd.R_drewN | apply Kd.R_drew)); exact Kd.R_mono HO301.out (fun _ hk => hk.2)⟩, ⟨by (with_reducible repeat (first | apply Kd.R_alloc | apply Kd.R_drewN | apply Kd.R_drew)); exact Kd.R_mono HO309.out (fun _ hk => hk.2)⟩, ⟨by (with_reducible repeat (first | refine blk_drewN ?_ _ | refine blk_drew ?_ | refine blk_alloc ?_ _)); exact BK303.out⟩, ⟨by (with_reducible repeat (first | refine blk_drewN ?_ _ | refine blk_drew ?_ | refine blk_alloc ?_ _)); exact BK311.out⟩, ⟨ba HB⟩⟩
     ·rw [if_neg c30] at H
      have c30b0 := beq_eq_false_iff_ne.mpr c30
      have c30b1 := bne_iff_ne.mpr c30
      have c30b2 : ¬ (t299 = []) := fun h_ => c30 (by rw [h_]; rfl)
      (first | rw [c30b0] | (simp only [i64_w, i32_w]; rw [c30b0]) | skip)
      have H' := Aside0.mk H
      clear H
      go_wp2
      go_meet
      case rel => exact ⟨_, (false), (by first | rfl | (simp; done) | (simp [*]; done)), H', ⟨by first | omega | exact Nat.le_refl _⟩, ⟨by (with_reducible repeat (first | apply Kd.R_alloc | apply Kd.R_drewN | apply Kd.R_drew)); exact Kd.R_mono HO301.out (fun _ hk => hk.2)⟩, ⟨by (with_reducible repeat (first | apply Kd.R_alloc | apply Kd.R_drewN | apply Kd.R_drew)); exact Kd.R_mono HO309.out (fun _ hk => hk.2)⟩, ⟨by (with_reducible repeat (first | refine blk_drewN ?_ _ | refine blk_drew ?_ | refine blk_alloc ?_ _)); exact BK303.out⟩, ⟨by (with_reducible repeat (first | refine blk_drewN ?_ _ | refine blk_drew ?_ | refine blk_alloc ?_ _)); exact BK311.out⟩, ⟨ba HB⟩⟩
    case rest =>
     clear HC11
     try clear c1
     try clear p2
     try clear c3
     try clear c6
     try clear c6b0
     try clear c6b1
     try clear c8
     try clear c8b0
     try clear c8b1
     try clear c10
     try clear c10b0
     try clear c10b1
     try clear c11
     try clear c18
     try clear c30
     try clear c30b0
     try clear c30b1
     try clear c30b2
     try clear hcz14_0
     try clear hcz14_1
     try clear hcz14_2
     try clear hcz14_3
     try clear hcz19_0
     try clear hcz19_1
     try clear hcz19_2
     try clear hcz19_3
     try clear hcz21_0
     try clear hcz21_1
     try clear hcz21_2
     try clear hcz21_3
     try clear hcz23_0
     try clear hcz23_1
     try clear hcz23_2
     try clear hcz23_3
     try clear hcz24_0
     try clear hcz24_1
     try clear hcz24_2
     try clear hcz24_3
     try clear hcz26_0
     try clear hcz26_1
     try clear hcz26_2
     try clear hcz26_3
     try clear hcz27_0
     try clear hcz27_1
     try clear hcz27_2
     try clear hcz27_3
     try clear hfz14_0
     try clear hfz14_1
     try clear hfz14_2
     try clear hfz14_3
     try clear hfz19_0
     try clear hfz19_1
     try clear hfz19_2
     try clear hfz19_3
     try clear hfz21_0
     try clear hfz21_1
     try clear hfz21_2
     try clear hfz21_3
     try clear hfz23_0
     try clear hfz23_1
     try clear hfz23_2
     try clear hfz23_3
     try clear hfz24_0
     try clear hfz24_1
     try clear hfz24_2
     try clear hfz24_3
     try clear hfz26_0
     try clear hfz26_1
     try clear hfz26_2
     try clear hfz26_3
     try clear hfz27_0
     try clear hfz27_1
     try clear hfz27_2
     try clear hfz27_3
     obtain ⟨kq, x61_10, rfl, HA, HJ10, HO_304003, HO_312003, BK303, BK311, HB⟩ := hcut
     cases kq with
     | zero => exact absurd HA.out (by simp [r03_Cmp.j0])
     | succ kj10 =>
      have H := HA.out
      clear HA
      simp only [r03_Cmp.j0] at H
      by_cases c31 : x61_10 = true
      ·subst c31
       replace H := it H
       obtain rfl := Option.some.inj H
       go_wp2
       go_ret
       exact ⟨by first | rfl | (simp [errW_none, errW_some] <;> rfl) | (simp [*, errW_none, errW_some] <;> rfl), ba HB⟩
      ·replace c31 := Bool.eq_false_iff.mpr c31
       subst c31
       replace H := jf H
       by_cases c32 : (t299.length : Int) = 0
       ·rw [if_pos c32] at H
        have c32b0 := beq_iff_eq.mpr c32
        have c32b1 := bne_eq_false_iff_eq.mpr c32
        clear c32
        obtain rfl := Option.some.inj H
        go_wp2
        go_ret
        exact ⟨by first | rfl | (simp [errW_none, errW_some] <;> rfl) | (simp [*, errW_none, errW_some] <;> rfl), ba HB⟩
       ·rw [if_neg c32] at H
        have c32b0 := beq_eq_false_iff_ne.mpr c32
        have c32b1 := bne_iff_ne.mpr c32
        have c32b2 : ¬ (t299 = []) := fun h_ => c32 (by rw [h_]; rfl)
        by_cases c33 : (t307.length : Int) = 0
        ·rw [if_pos c33] at H
         have c33b0 := beq_iff_eq.mpr c33
         have c33b1 := bne_eq_false_iff_eq.mpr c33
         clear c33
         obtain rfl := Option.some.inj H
         go_wp2
         go_ret
         exact ⟨by first | rfl | (simp [errW_none, errW_some] <;> rfl) | (simp [*, errW_none, errW_some] <;> rfl), ba HB⟩
        ·rw [if_neg c33] at H
         have c33b0 := beq_eq_false_iff_ne.mpr c33
         have c33b1 := bne_iff_ne.mpr c33
         have c33b2 : ¬ (t307 = []) := fun h_ => c33 (by rw [h_]; rfl)
         have H' := Aside0.mk H
         clear H
         go_wp2
         go_loopg [14] kj10 (fun kq v14 w' => ∃ (x14_2 : Int), v14 = .int .i64 x14_2 ∧ Aside0 (r03_Cmp.l0 kq (t299.length : Int) (t307.length : Int) x14_2 t296 t297 t298 t299 t304 t305 t306 t307 = some r) ∧ Aside0 (kq ≤ kj10) ∧ Aside0 (Kd.R Kd.string 9 w' w.heap.size (fun k_ => some k_ ≠ ((.slice Ao20 t307.length co20) : Value).ownBlock) (.slice Ao15 t299.length co15) t299) ∧ Aside0 (Kd.R Kd.string 9 w' w.heap.size (fun k_ => some k_ ≠ ((.slice Ao15 t299.length co15) : Value).ownBlock) (.slice Ao20 t307.length co20) t307) ∧ Aside0 (w'.heap[gb303]? = some (.cells #[.string t296, .string t297, .string t298, (.slice Ao15 t299.length co15)] 146 (0, 0))) ∧ Aside0 (w'.heap[gb311]? = some (.cells #[.string t304, .string t305, .string t306, (.slice Ao20 t307.length co20)] 146 (0, 0))) ∧ Aside0 (Below w.heap.size w w'))
         case atStart => exact ⟨(0), (by first | rfl | (simp; done) | (simp [*]; done)), H', ⟨Nat.le_refl _⟩, ⟨ra HO_304003⟩, ⟨ra HO_312003⟩, ⟨by (with_reducible repeat (first | refine blk_drewN ?_ _ | refine blk_drew ?_ | refine blk_alloc ?_ _)); exact BK303.out⟩, ⟨by (with_reducible repeat (first | refine blk_drewN ?_ _ | refine blk_drew ?_ | refine blk_alloc ?_ _)); exact BK311.out⟩, ⟨ba HB⟩⟩
         case round =>
          clear H'
          try clear c1
          try clear p2
          try clear c3
          try clear c6
          try clear c6b0
          try clear c6b1
          try clear c8
          try clear c8b0
          try clear c8b1
          try clear c10
          try clear c10b0
          try clear c10b1
          try clear c11
          try clear c18
          try clear c30
          try clear c30b0
          try clear c30b1
          try clear c30b2
          try clear c31
          try clear c32
          try clear c32b0
          try clear c32b1
          try clear c32b2
          try clear c33
          try clear c33b0
          try clear c33b1
          try clear c33b2
          try clear hcz14_0
          try clear hcz14_1
          try clear hcz14_2
          try clear hcz14_3
          try clear hcz19_0
          try clear hcz19_1
          try clear hcz19_2
          try clear hcz19_3
          try clear hcz21_0
          try clear hcz21_1
          try clear hcz21_2
          try clear hcz21_3
          try clear hcz23_0
          try clear hcz23_1
          try clear hcz23_2
          try clear hcz23_3
          try clear hcz24_0
          try clear hcz24_1
          try clear hcz24_2
          try clear hcz24_3
          try clear hcz26_0
          try clear hcz26_1
          try clear hcz26_2
          try clear hcz26_3
          try clear hcz27_0
          try clear hcz27_1
          try clear hcz27_2
          try clear hcz27_3
          try clear hfz14_0
          try clear hfz14_1
          try clear hfz14_2
          try clear hfz14_3
          try clear hfz19_0
          try clear hfz19_1
          try clear hfz19_2
          try clear hfz19_3
          try clear hfz21_0
          try clear hfz21_1
          try clear hfz21_2
          try clear hfz21_3
          try clear hfz23_0
          try clear hfz23_1
          try clear hfz23_2
          try clear hfz23_3
          try clear hfz24_0
          try clear hfz24_1
          try clear hfz24_2
          try clear hfz24_3
          try clear hfz26_0
          try clear hfz26_1
          try clear hfz26_2
          try clear hfz26_3
          try clear hfz27_0
          try clear hfz27_1
          try clear hfz27_2
          try clear hfz27_3
          try clear p2
          obtain ⟨x14_2, rfl, HA, HK2, HO_304003, HO_312003, BK303, BK311, HB⟩ := hrel
          cases gk with
          | zero => exact absurd HA.out (by simp [r03_Cmp.l0])
          | succ k2 =>
           have H := HA.out
           clear HA
           simp only [r03_Cmp.l0] at H
           have HC34 := Aside0.mk H
           clear H
           go_upto_region 20 with (fail)
           go_cut [73] (fun v73 wc => ∃ (kq : Nat) (x73_33 : Bool), v73 = .bool x73_33 ∧ Aside0 (r03_Cmp.j2 kq (t299.length : Int) (t307.length : Int) x14_2 x73_33 t296 t297 t298 t299 t304 t305 t306 t307 = some r) ∧ Aside0 (kq ≤ k2) ∧ Aside0 (Kd.R Kd.string 9 wc w.heap.size (fun k_ => some k_ ≠ ((.slice Ao20 t307.length co20) : Value).ownBlock) (.slice Ao15 t299.length co15) t299) ∧ Aside0 (Kd.R Kd.string 9 wc w.heap.size (fun k_ => some k_ ≠ ((.slice Ao15 t299.length co15) : Value).ownBlock) (.slice Ao20 t307.length co20) t307) ∧ Aside0 (wc.heap[gb303]? = some (.cells #[.string t296, .string t297, .string t298, (.slice Ao15 t299.length co15)] 146 (0, 0))) ∧ Aside0 (wc.heap[gb311]? = some (.cells #[.string t304, .string t305, .string t306, (.slice Ao20 t307.length co20)] 146 (0, 0))) ∧ Aside0 (Below w.heap.size w wc))
           case first =>
            have H := HC34.out
            clear HC34
            by_cases c35 : x14_2 < (t299.length : Int)
            ·rw [if_pos c35] at H
             have c35b0 : decide (x14_2 < (t299.length : Int)) = true := decide_eq_true c35
             clear c35
             (first | rw [c35b0] | (simp only [i64_w, i32_w]; rw [c35b0]) | skip)
             have H' := Aside0.mk H
             clear H
             go_wp2
             go_meet
             case rel => exact ⟨_, (decide (x14_2 < (t307.length : Int))), (by first | rfl | (simp; done) | (simp [*]; done)), H', ⟨by have := HJ10.out; have := HK2.out; first | omega | exact Nat.le_refl _⟩, ⟨ra HO_304003⟩, ⟨ra HO_312003⟩, ⟨by (with_reducible repeat (first | refine blk_drewN ?_ _ | refine blk_drew ?_ | refine blk_alloc ?_ _)); exact BK303.out⟩, ⟨by (with_reducible repeat (first | refine blk_drewN ?_ _ | refine blk_drew ?_ | refine blk_alloc ?_ _)); exact BK311.out⟩, ⟨ba HB⟩⟩
            ·rw [if_neg c35] at H
             have c35b0 : decide (x14_2 < (t299.length : Int)) = false := decide_eq_false c35
             clear c35
             (first | rw [c35b0] | (simp only [i64_w, i32_w]; rw [c35b0]) | skip)
             have H' := Aside0.mk H
             clear H
             go_wp2
             go_meet
             case rel => exact ⟨_, (false), (by first | rfl | (simp; done) | (simp [*]; done)), H', ⟨by have := HJ10.out; have := HK2.out; first | omega | exact Nat.le_refl _⟩, ⟨ra HO_304003⟩, ⟨ra HO_312003⟩, ⟨by (with_reducible repeat (first | refine blk_drewN ?_ _ | refine blk_drew ?_ | refine blk_alloc ?_ _)); exact BK303.out⟩, ⟨by (with_reducible repeat (first | refine blk_drewN ?_ _ | refine blk_drew ?_ | refine blk_alloc ?_ _)); exact BK311.out⟩, ⟨ba HB⟩⟩
           case rest =>
            clear HC34
            try clear c1
            try clear p2
            try clear c3
            try clear c6
            try clear c6b0
            try clear c6b1
            try clear c8
            try clear c8b0
            try clear c8b1
            try clear c10
            try clear c10b0
            try clear c10b1
            try clear c11
            try clear c18
            try clear c30
            try clear c30b0
            try clear c30b1
            try clear c30b2
            try clear c31
            try clear c32
            try clear c32b0
            try clear c32b1
            try clear c32b2
            try clear c33
            try clear c33b0
            try clear c33b1
            try clear c33b2
            try clear c35
            try clear c35b0
            try clear hcz14_0
            try clear hcz14_1
            try clear hcz14_2
            try clear hcz14_3
            try clear hcz19_0
            try clear hcz19_1
            try clear hcz19_2
            try clear hcz19_3
            try clear hcz21_0
            try clear hcz21_1
            try clear hcz21_2
            try clear hcz21_3
            try clear hcz23_0
            try clear hcz23_1
            try clear hcz23_2
            try clear hcz23_3
            try clear hcz24_0
            try clear hcz24_1
            try clear hcz24_2
            try clear hcz24_3
            try clear hcz26_0
            try clear hcz26_1
            try clear hcz26_2
            try clear hcz26_3
            try clear hcz27_0
            try clear hcz27_1
            try clear hcz27_2
            try clear hcz27_3
            try clear hfz14_0
            try clear hfz14_1
            try clear hfz14_2
            try clear hfz14_3
            try clear hfz19_0
            try clear hfz19_1
            try clear hfz19_2
            try clear hfz19_3
            try clear hfz21_0
            try clear hfz21_1
            try clear hfz21_2
            try clear hfz21_3
            try clear hfz23_0
            try clear hfz23_1
            try clear hfz23_2
            try clear hfz23_3
            try clear hfz24_0
            try clear hfz24_1
            try clear hfz24_2
            try clear hfz24_3
            try clear hfz26_0
            try clear hfz26_1
            try clear hfz26_2
            try clear hfz26_3
            try clear hfz27_0
            try clear hfz27_1
            try clear hfz27_2
            try clear hfz27_3
            try clear p2
            obtain ⟨kq, x73_33, rfl, HA, HJ33, HO_304003, HO_312003, BK303, BK311, HB⟩ := hcut
            cases kq with
            | zero => exact absurd HA.out (by simp [r03_Cmp.j2])
            | succ kj33 =>
             have H := HA.out
             clear HA
             simp only [r03_Cmp.j2] at H
             by_cases c36 : x73_33 = true
             ·subst c36
              replace H := it H
              by_cases c37 : 0 ≤ x14_2
              ·rw [if_pos c37] at H
               have c37b0 : decide (0 ≤ x14_2) = true := decide_eq_true c37
               clear c37
               by_cases c38 : x14_2 < (t299.length : Int)
               ·rw [if_pos c38] at H
                have c38b0 : decide (x14_2 < (t299.length : Int)) = true := decide_eq_true c38
                clear c38
                by_cases c39 : x14_2 < (t307.length : Int)
                ·rw [if_pos c39] at H
                 have c39b0 : decide (x14_2 < (t307.length : Int)) = true := decide_eq_true c39
                 clear c39
                 obtain ⟨t317, A40, H⟩ := bo H
                 by_cases c41 : t317 = 0
                 ·rw [if_pos c41] at H
                  have c41b0 := beq_iff_eq.mpr c41
                  have c41b1 := bne_eq_false_iff_eq.mpr c41
                  clear c41
                  have H' := Aside0.mk H
                  clear H
                  try go_wp2
                  have n0_ := Aside0.mk (Kd.R_drew HO_304003.out)
                  have n1_ := Aside0.mk (Kd.R_drew HO_312003.out)
                  have n2_ := Aside0.mk (blk_drew BK303.out)
                  have n3_ := Aside0.mk (blk_drew BK311.out)
                  have n4_ := Aside0.mk (below_drew1 HB.out)
                  revert n0_ n1_ n2_ n3_ n4_
                  clear HO_304003 HO_312003 BK303 BK311 HB
                  intro HO_304003 HO_312003 BK303 BK311 HB
                  have p315 : 0 ≤ (x14_2 : Int) := of_decide_eq_true (by first | (with_reducible assumption) | assumption)
                  have q315 : x14_2 < (t299.length : Int) := of_decide_eq_true (by first | (with_reducible assumption) | assumption)
                  obtain ⟨ad315, e315, hx315_0⟩ := Kd.at_string (Kd.R_reads' HO_304003.out).2.2 x14_2 p315 q315
                  cases e315
                  replace p315 := eq_true p315
                  replace q315 := eq_true q315
                  have p316 : 0 ≤ (x14_2 : Int) := of_decide_eq_true (by first | (with_reducible assumption) | assumption)
                  have q316 : x14_2 < (t307.length : Int) := of_decide_eq_true (by first | (with_reducible assumption) | assumption)
                  obtain ⟨ad316, e316, hx316_0⟩ := Kd.at_string (Kd.R_reads' HO_312003.out).2.2 x14_2 p316 q316
                  cases e316
                  replace p316 := eq_true p316
                  replace q316 := eq_true q316
                  refine start_ (n := 12) (S := fun w' => w'.cell? ⟨gb303, 0, none⟩ = some (.string t296) ∧ w'.cell? ⟨gb303, 1, none⟩ = some (.string t297) ∧ w'.cell? ⟨gb303, 2, none⟩ = some (.string t298) ∧ w'.cell? ⟨gb303, 3, none⟩ = some (.slice (some ad315) t299.length co15) ∧ w'.cell? ⟨gb311, 0, none⟩ = some (.string t304) ∧ w'.cell? ⟨gb311, 1, none⟩ = some (.string t305) ∧ w'.cell? ⟨gb311, 2, none⟩ = some (.string t306) ∧ w'.cell? ⟨gb311, 3, none⟩ = some (.slice (some ad316) t307.length co20) ∧ w'.cell? (ad315.add (x14_2).toNat) = some (.string (rdOf ByteArray.empty t299 x14_2)) ∧ w'.cell? (ad316.add (x14_2).toNat) = some (.string (rdOf ByteArray.empty t307 x14_2))) (ds := []) #[false, false, false, false, false, false, false, false, false, false, false, false] (by kernel_rfl) rfl rfl ⟨bc BK303 0, bc BK303 1, bc BK303 2, bc BK303 3, bc BK311 0, bc BK311 1, bc BK311 2, bc BK311 3, hx315_0, hx316_0⟩ (fun hHeld => ?_); refine with_tabW r03_Cmp.tab22 r03_Cmp.bits22 (fun HT_ HW_ => ?_)
                  generalize wc.drew = w42 at HO_304003 HO_312003 BK303 BK311 HB hx315_0 hx316_0 hHeld ⊢
                  refine pu 0 76 ?_
                  refine pu 2 78 ?_
                  refine pu 5 81 ?_
                  refine pu 7 83 ?_
                  refine tk 1 77 ?_
                  refine pu 3 79 ?_
                  refine tk 4 80 ?_
                  refine tk 6 82 ?_
                  refine pu 8 84 ?_
                  refine tk 9 85 ?_
                  refine oq 10 (some 86) fun K hK => ?_
                  refine gs Tryz.func118 #[.string (rdOf ByteArray.empty t299 x14_2), .string (rdOf ByteArray.empty t307 x14_2)] ?_
                  with_reducible refine (r03_words.calls kj33 (rdOf ByteArray.empty t299 x14_2) (rdOf ByteArray.empty t307 x14_2) t317 _ A40.out).mono ?_
                  rintro e w43 ⟨rfl, hb⟩
                  have HS8_ := (hb.cell (World.block_lt_of_cell? _ _ (hHeld.2.2.2.2.2.2.2.2.1))).trans (hHeld.2.2.2.2.2.2.2.2.1)
                  have HS9_ := (hb.cell (World.block_lt_of_cell? _ _ (hHeld.2.2.2.2.2.2.2.2.2))).trans (hHeld.2.2.2.2.2.2.2.2.2)
                  refine ⟨_, rfl, ?_⟩
                  have n0_ := rb HO_304003 hb
                  have n1_ := rb HO_312003 hb
                  have n2_ := bb BK303 hb
                  have n3_ := bb BK311 hb
                  have n4_ := bs HB hb
                  revert n0_ n1_ n2_ n3_ n4_
                  clear HO_304003 HO_312003 BK303 BK311 HB
                  intro HO_304003 HO_312003 BK303 BK311 HB
                  try clear hb
                  refine hK.out _ _ ⟨bc BK303 0, bc BK303 1, bc BK303 2, bc BK303 3, bc BK311 0, bc BK311 1, bc BK311 2, bc BK311 3, HS8_, HS9_⟩ (fun hHeld => ?_)
                  clear hK K
                  refine nm ?_
                  refine pu 11 15 ?_
                  refine dq ?_
                  try go_wp2
                  go_roundg kj33
                  case measure => have := HJ10.out; have := HK2.out; have := HJ33.out; omega
                  case rel => exact ⟨(wrap64 (x14_2 + 1)), (by first | rfl | (simp; done) | (simp [*]; done)), H', ⟨by have := HJ10.out; have := HK2.out; have := HJ33.out; omega⟩, ⟨ra HO_304003⟩, ⟨ra HO_312003⟩, ⟨by (with_reducible repeat (first | refine blk_drewN ?_ _ | refine blk_drew ?_ | refine blk_alloc ?_ _)); exact BK303.out⟩, ⟨by (with_reducible repeat (first | refine blk_drewN ?_ _ | refine blk_drew ?_ | refine blk_alloc ?_ _)); exact BK311.out⟩, ⟨ba HB⟩⟩
                 ·rw [if_neg c41] at H
                  have c41b0 := beq_eq_false_iff_ne.mpr c41
                  have c41b1 := bne_iff_ne.mpr c41
                  obtain rfl := Option.some.inj H
                  try go_wp2
                  have n0_ := Aside0.mk (Kd.R_drew HO_304003.out)
                  have n1_ := Aside0.mk (Kd.R_drew HO_312003.out)
                  have n2_ := Aside0.mk (blk_drew BK303.out)
                  have n3_ := Aside0.mk (blk_drew BK311.out)
                  have n4_ := Aside0.mk (below_drew1 HB.out)
                  revert n0_ n1_ n2_ n3_ n4_
                  clear HO_304003 HO_312003 BK303 BK311 HB
                  intro HO_304003 HO_312003 BK303 BK311 HB
                  have p315 : 0 ≤ (x14_2 : Int) := of_decide_eq_true (by first | (with_reducible assumption) | assumption)
                  have q315 : x14_2 < (t299.length : Int) := of_decide_eq_true (by first | (with_reducible assumption) | assumption)
                  obtain ⟨ad315, e315, hx315_0⟩ := Kd.at_string (Kd.R_reads' HO_304003.out).2.2 x14_2 p315 q315
                  cases e315
                  replace p315 := eq_true p315
                  replace q315 := eq_true q315
                  have p316 : 0 ≤ (x14_2 : Int) := of_decide_eq_true (by first | (with_reducible assumption) | assumption)
                  have q316 : x14_2 < (t307.length : Int) := of_decide_eq_true (by first | (with_reducible assumption) | assumption)
                  obtain ⟨ad316, e316, hx316_0⟩ := Kd.at_string (Kd.R_reads' HO_312003.out).2.2 x14_2 p316 q316
                  cases e316
                  replace p316 := eq_true p316
                  replace q316 := eq_true q316
                  refine start_ (n := 12) (S := fun w' => w'.cell? ⟨gb303, 0, none⟩ = some (.string t296) ∧ w'.cell? ⟨gb303, 1, none⟩ = some (.string t297) ∧ w'.cell? ⟨gb303, 2, none⟩ = some (.string t298) ∧ w'.cell? ⟨gb303, 3, none⟩ = some (.slice (some ad315) t299.length co15) ∧ w'.cell? ⟨gb311, 0, none⟩ = some (.string t304) ∧ w'.cell? ⟨gb311, 1, none⟩ = some (.string t305) ∧ w'.cell? ⟨gb311, 2, none⟩ = some (.string t306) ∧ w'.cell? ⟨gb311, 3, none⟩ = some (.slice (some ad316) t307.length co20) ∧ w'.cell? (ad315.add (x14_2).toNat) = some (.string (rdOf ByteArray.empty t299 x14_2)) ∧ w'.cell? (ad316.add (x14_2).toNat) = some (.string (rdOf ByteArray.empty t307 x14_2))) (ds := []) #[false, false, false, false, false, false, false, false, false, false, false, false] (by kernel_rfl) rfl rfl ⟨bc BK303 0, bc BK303 1, bc BK303 2, bc BK303 3, bc BK311 0, bc BK311 1, bc BK311 2, bc BK311 3, hx315_0, hx316_0⟩ (fun hHeld => ?_); refine with_tabW r03_Cmp.tab22 r03_Cmp.bits22 (fun HT_ HW_ => ?_)
                  generalize wc.drew = w44 at HO_304003 HO_312003 BK303 BK311 HB hx315_0 hx316_0 hHeld ⊢
                  refine pu 0 76 ?_
                  refine pu 2 78 ?_
                  refine pu 5 81 ?_
                  refine pu 7 83 ?_
                  refine tk 1 77 ?_
                  refine pu 3 79 ?_
                  refine tk 4 80 ?_
                  refine tk 6 82 ?_
                  refine pu 8 84 ?_
                  refine tk 9 85 ?_
                  refine oq 10 (some 86) fun K hK => ?_
                  refine gs Tryz.func118 #[.string (rdOf ByteArray.empty t299 x14_2), .string (rdOf ByteArray.empty t307 x14_2)] ?_
                  with_reducible refine (r03_words.calls kj33 (rdOf ByteArray.empty t299 x14_2) (rdOf ByteArray.empty t307 x14_2) t317 _ A40.out).mono ?_
                  rintro e w45 ⟨rfl, hb⟩
                  have HS8_ := (hb.cell (World.block_lt_of_cell? _ _ (hHeld.2.2.2.2.2.2.2.2.1))).trans (hHeld.2.2.2.2.2.2.2.2.1)
                  have HS9_ := (hb.cell (World.block_lt_of_cell? _ _ (hHeld.2.2.2.2.2.2.2.2.2))).trans (hHeld.2.2.2.2.2.2.2.2.2)
                  refine ⟨_, rfl, ?_⟩
                  have n0_ := rb HO_304003 hb
                  have n1_ := rb HO_312003 hb
                  have n2_ := bb BK303 hb
                  have n3_ := bb BK311 hb
                  have n4_ := bs HB hb
                  revert n0_ n1_ n2_ n3_ n4_
                  clear HO_304003 HO_312003 BK303 BK311 HB
                  intro HO_304003 HO_312003 BK303 BK311 HB
                  try clear hb
                  refine hK.out _ _ ⟨bc BK303 0, bc BK303 1, bc BK303 2, bc BK303 3, bc BK311 0, bc BK311 1, bc BK311 2, bc BK311 3, HS8_, HS9_⟩ (fun hHeld => ?_)
                  clear hK K
                  refine nm ?_
                  refine pu 11 15 ?_
                  refine dq ?_
                  try go_wp2
                  go_ret
                  exact ⟨by first | rfl | (simp [errW_none, errW_some] <;> rfl) | (simp [*, errW_none, errW_some] <;> rfl), ba HB⟩
                ·rw [if_neg c39] at H
                 exact absurd H (by simp)
               ·rw [if_neg c38] at H
                exact absurd H (by simp)
              ·rw [if_neg c37] at H
               exact absurd H (by simp)
             ·replace c36 := Bool.eq_false_iff.mpr c36
              subst c36
              replace H := jf H
              by_cases c46 : (t299.length : Int) < (t307.length : Int)
              ·rw [if_pos c46] at H
               have c46b0 : decide ((t299.length : Int) < (t307.length : Int)) = true := decide_eq_true c46
               have c46b1 : decide (t299.length < t307.length) = true := decide_eq_true (Int.ofNat_lt.mp c46)
               clear c46
               obtain rfl := Option.some.inj H
               go_wp2
               go_ret
               exact ⟨by first | rfl | (simp [errW_none, errW_some] <;> rfl) | (simp [*, errW_none, errW_some] <;> rfl), ba HB⟩
              ·rw [if_neg c46] at H
               have c46b0 : decide ((t299.length : Int) < (t307.length : Int)) = false := decide_eq_false c46
               have c46b1 : decide (t299.length < t307.length) = false := decide_eq_false (fun h => c46 (Int.ofNat_lt.mpr h))
               clear c46
               by_cases c47 : (t299.length : Int) > (t307.length : Int)
               ·rw [if_pos c47] at H
                have c47b0 : decide ((t307.length : Int) < (t299.length : Int)) = true := decide_eq_true c47
                have c47b1 : decide (t307.length < t299.length) = true := decide_eq_true (Int.ofNat_lt.mp c47)
                clear c47
                obtain rfl := Option.some.inj H
                go_wp2
                go_ret
                exact ⟨by first | rfl | (simp [errW_none, errW_some] <;> rfl) | (simp [*, errW_none, errW_some] <;> rfl), ba HB⟩
               ·rw [if_neg c47] at H
                have c47b0 : decide ((t307.length : Int) < (t299.length : Int)) = false := decide_eq_false c47
                have c47b1 : decide (t307.length < t299.length) = false := decide_eq_false (fun h => c47 (Int.ofNat_lt.mpr h))
                clear c47
                obtain rfl := Option.some.inj H
                go_wp2
                go_ret
                exact ⟨by first | rfl | (simp [errW_none, errW_some] <;> rfl) | (simp [*, errW_none, errW_some] <;> rfl), ba HB⟩
   ·rw [if_neg c10] at H
    have c10b0 := beq_eq_false_iff_ne.mpr c10
    have c10b1 := bne_iff_ne.mpr c10
    obtain rfl := Option.some.inj H
    go_enter Tryz.func83, Tryz.ntmps83
    go_wp2_with (first | ((with_reducible refine gate_callee (f := 116) rfl ?_); refine gl 18 Tryz.func116 #[.string a0] ?_; (with_reducible refine (r03_Split.calls k a0 t296 t297 t298 t299 t302 _ A3.out).mono ?_); rintro e w48 ⟨v300, rfl, ho0, hb⟩; refine ⟨_, rfl, ?_⟩; have n0_ := Aside0.mk (Kd.R_lower ho0 (bz HB)); have n1_ := bs HB hb; revert n0_ n1_; clear HB; intro HO301 HB; (try clear hb); (try clear ho0)) | ((with_reducible refine gate_dst (N := 5) rfl ?_); refine box_event ?hg (N := 5) ?hd (cs := #[.string (⟨#[]⟩ : ByteArray), .string (⟨#[]⟩ : ByteArray), .string (⟨#[]⟩ : ByteArray), .slice none 0 0]) (t := 146) ?hr ?_; (case hd => rfl); (case hg => rfl); (case hr => first | (go_simp; done) | (go_simp; rfl)); intro gb303 hg w49 hbox hb; have n0_ := rb HO301 hb; have n1_ := bs HB hb; have n2_ := Aside0.mk (hbox); have n3_ := gz hg HB; have n4_ := gz hg HB; revert n0_ n1_ n2_ n3_ n4_; clear HO301 HB; intro HO301 HB BK303 GW303 GE303; clear hb hbox hg; have hcz50_0 := bc BK303 0; have hcz50_1 := bc BK303 1; have hcz50_2 := bc BK303 2; have hcz50_3 := bc BK303 3; have hfz50_0 := bf BK303 0; have hfz50_1 := bf BK303 1; have hfz50_2 := bf BK303 2; have hfz50_3 := bf BK303 3; obtain ⟨Ao51, co51, eo51⟩ := Kd.R_slice HO301.out; subst eo51) | ((with_reducible refine gate_callee (f := 116) rfl ?_); refine gl 23 Tryz.func116 #[.string a1] ?_; (with_reducible refine (r03_Split.calls k a1 t304 t305 t306 t307 t310 _ A4.out).mono ?_); rintro e w52 ⟨v308, rfl, ho0, hb⟩; refine ⟨_, rfl, ?_⟩; have n0_ := Aside0.mk (Kd.R_elder' (by (with_reducible repeat (first | apply Kd.R_alloc | apply Kd.R_drewN | apply Kd.R_drew)); exact (Kd.R_mono (Kd.R_far (p := ⟨gb303, 3, none⟩) (Kd.R_far (p := ⟨gb303, 2, none⟩) (Kd.R_far (p := ⟨gb303, 1, none⟩) (Kd.R_far (p := ⟨gb303, 0, none⟩) (Kd.R_types HO301.out BK303.out (by decide)) (fun _ hk => hk.2) (.string t296)) (fun _ hk => hk.2) (.string t297)) (fun _ hk => hk.2) (.string t298)) (fun _ hk => hk.2) (.slice Ao51 t299.length co51)) (fun _ h_ => h_.1))) (Kd.R_base ho0) hb); have n1_ := Aside0.mk (Kd.R_lower (Kd.R_new' ho0 (Kd.R_lt (by (with_reducible repeat (first | apply Kd.R_alloc | apply Kd.R_drewN | apply Kd.R_drew)); exact (Kd.R_mono (Kd.R_far (p := ⟨gb303, 3, none⟩) (Kd.R_far (p := ⟨gb303, 2, none⟩) (Kd.R_far (p := ⟨gb303, 1, none⟩) (Kd.R_far (p := ⟨gb303, 0, none⟩) (Kd.R_types HO301.out BK303.out (by decide)) (fun _ hk => hk.2) (.string t296)) (fun _ hk => hk.2) (.string t297)) (fun _ hk => hk.2) (.string t298)) (fun _ hk => hk.2) (.slice Ao51 t299.length co51)) (fun _ h_ => h_.1))))) (bz HB)); have n2_ := Aside0.mk (blk_below (g := gb303) (o := .cells #[.string t296, .string t297, .string t298, .slice Ao51 t299.length co51] 146 (0, 0)) (by (with_reducible repeat (first | refine blk_drewN ?_ _ | refine blk_drew ?_ | refine blk_alloc ?_ _)); refine blk_put (cs := #[.string t296, .string t297, .string t298, .slice none 0 0]) ?_ 3 _ rfl; (with_reducible repeat (first | refine blk_drewN ?_ _ | refine blk_drew ?_ | refine blk_alloc ?_ _)); refine blk_put (cs := #[.string t296, .string t297, .string (⟨#[]⟩ : ByteArray), .slice none 0 0]) ?_ 2 _ rfl; (with_reducible repeat (first | refine blk_drewN ?_ _ | refine blk_drew ?_ | refine blk_alloc ?_ _)); refine blk_put (cs := #[.string t296, .string (⟨#[]⟩ : ByteArray), .string (⟨#[]⟩ : ByteArray), .slice none 0 0]) ?_ 1 _ rfl; (with_reducible repeat (first | refine blk_drewN ?_ _ | refine blk_drew ?_ | refine blk_alloc ?_ _)); refine blk_put (cs := #[.string (⟨#[]⟩ : ByteArray), .string (⟨#[]⟩ : ByteArray), .string (⟨#[]⟩ : ByteArray), .slice none 0 0]) ?_ 0 _ rfl; (with_reducible repeat (first | refine blk_drewN ?_ _ | refine blk_drew ?_ | refine blk_alloc ?_ _)); exact BK303.out) hb); have n3_ := bs HB hb; revert n0_ n1_ n2_ n3_; clear HO301 BK303 HB; intro HO301 HO309 BK303 HB; (try clear hb); (try clear ho0)) | ((with_reducible refine gate_dst (N := 7) rfl ?_); refine box_event ?hg (N := 7) ?hd (cs := #[.string (⟨#[]⟩ : ByteArray), .string (⟨#[]⟩ : ByteArray), .string (⟨#[]⟩ : ByteArray), .slice none 0 0]) (t := 146) ?hr ?_; (case hd => rfl); (case hg => rfl); (case hr => first | (go_simp; done) | (go_simp; rfl)); intro gb311 hg w53 hbox hb; have n0_ := rb HO301 hb; have n1_ := rb HO309 hb; have n2_ := bb BK303 hb; have n3_ := bs HB hb; have n4_ := Aside0.mk (hbox); have n5_ := gz hg HB; have n6_ := gz hg HB; have n7_ := Aside0.mk ((by rw [hg]; exact Nat.ne_of_lt (blk_lt (g := gb303) (o := .cells #[.string t296, .string t297, .string t298, .slice Ao51 t299.length co51] 146 (0, 0)) (bk BK303)) : gb303 ≠ gb311)); have n8_ := Aside0.mk ((by rw [hg]; exact Nat.ne_of_gt (blk_lt (g := gb303) (o := .cells #[.string t296, .string t297, .string t298, .slice Ao51 t299.length co51] 146 (0, 0)) (bk BK303)) : gb311 ≠ gb303)); revert n0_ n1_ n2_ n3_ n4_ n5_ n6_ n7_ n8_; clear HO301 HO309 BK303 HB; intro HO301 HO309 BK303 HB BK311 GW311 GE311 NB303_311 NB311_303; clear hb hbox hg; have hnb54 := NB311_303.out; have hnc54 := NB303_311.out; have hcz55_0 := bc BK311 0; have hcz55_1 := bc BK311 1; have hcz55_2 := bc BK311 2; have hcz55_3 := bc BK311 3; have hfz55_0 := bf BK311 0; have hfz55_1 := bf BK311 1; have hfz55_2 := bf BK311 2; have hfz55_3 := bf BK311 3; obtain ⟨Ao56, co56, eo56⟩ := Kd.R_slice HO309.out; subst eo56; have hcz57_0 := bc BK303 0; have hcz57_1 := bc BK303 1; have hcz57_2 := bc BK303 2; have hcz57_3 := bc BK303 3; have hfz57_0 := bf BK303 0; have hfz57_1 := bf BK303 1; have hfz57_2 := bf BK303 2; have hfz57_3 := bf BK303 3) | ((with_reducible refine gate_callee (f := 117) rfl ?_); refine gl 30 Tryz.func117 #[.string t296, .string t304] ?_; (with_reducible refine (r02_Cmp.calls k t296 t304 t312 _ A5.out).mono ?_); rintro e w58 ⟨rfl, hb⟩; refine ⟨_, rfl, ?_⟩; have n0_ := Aside0.mk (Kd.R_below (by (with_reducible repeat (first | apply Kd.R_alloc | apply Kd.R_drewN | apply Kd.R_drew)); exact (Kd.R_mono (Kd.R_far (p := ⟨gb311, 3, none⟩) (Kd.R_far (p := ⟨gb311, 2, none⟩) (Kd.R_far (p := ⟨gb311, 1, none⟩) (Kd.R_far (p := ⟨gb311, 0, none⟩) (Kd.R_types HO301.out BK311.out (by decide)) (fun _ hk => hk.2) (.string t304)) (fun _ hk => hk.2) (.string t305)) (fun _ hk => hk.2) (.string t306)) (fun _ hk => hk.2) (.slice Ao56 t307.length co56)) (fun _ h_ => h_.1))) hb); have n1_ := Aside0.mk (Kd.R_below (by (with_reducible repeat (first | apply Kd.R_alloc | apply Kd.R_drewN | apply Kd.R_drew)); exact (Kd.R_mono (Kd.R_far (p := ⟨gb311, 3, none⟩) (Kd.R_far (p := ⟨gb311, 2, none⟩) (Kd.R_far (p := ⟨gb311, 1, none⟩) (Kd.R_far (p := ⟨gb311, 0, none⟩) (Kd.R_types HO309.out BK311.out (by decide)) (fun _ hk => hk.2) (.string t304)) (fun _ hk => hk.2) (.string t305)) (fun _ hk => hk.2) (.string t306)) (fun _ hk => hk.2) (.slice Ao56 t307.length co56)) (fun _ h_ => h_.1))) hb); have n2_ := Aside0.mk (blk_below (g := gb303) (o := .cells #[.string t296, .string t297, .string t298, .slice Ao51 t299.length co51] 146 (0, 0)) (by (with_reducible repeat (first | refine blk_drewN ?_ _ | refine blk_drew ?_ | refine blk_alloc ?_ _)); refine blk_far ?_ NB303_311.out _; (with_reducible repeat (first | refine blk_drewN ?_ _ | refine blk_drew ?_ | refine blk_alloc ?_ _)); refine blk_far ?_ NB303_311.out _; (with_reducible repeat (first | refine blk_drewN ?_ _ | refine blk_drew ?_ | refine blk_alloc ?_ _)); refine blk_far ?_ NB303_311.out _; (with_reducible repeat (first | refine blk_drewN ?_ _ | refine blk_drew ?_ | refine blk_alloc ?_ _)); refine blk_far ?_ NB303_311.out _; (with_reducible repeat (first | refine blk_drewN ?_ _ | refine blk_drew ?_ | refine blk_alloc ?_ _)); exact BK303.out) hb); have n3_ := Aside0.mk (blk_below (g := gb311) (o := .cells #[.string t304, .string t305, .string t306, .slice Ao56 t307.length co56] 146 (0, 0)) (by (with_reducible repeat (first | refine blk_drewN ?_ _ | refine blk_drew ?_ | refine blk_alloc ?_ _)); refine blk_put (cs := #[.string t304, .string t305, .string t306, .slice none 0 0]) ?_ 3 _ rfl; (with_reducible repeat (first | refine blk_drewN ?_ _ | refine blk_drew ?_ | refine blk_alloc ?_ _)); refine blk_put (cs := #[.string t304, .string t305, .string (⟨#[]⟩ : ByteArray), .slice none 0 0]) ?_ 2 _ rfl; (with_reducible repeat (first | refine blk_drewN ?_ _ | refine blk_drew ?_ | refine blk_alloc ?_ _)); refine blk_put (cs := #[.string t304, .string (⟨#[]⟩ : ByteArray), .string (⟨#[]⟩ : ByteArray), .slice none 0 0]) ?_ 1 _ rfl; (with_reducible repeat (first | refine blk_drewN ?_ _ | refine blk_drew ?_ | refine blk_alloc ?_ _)); refine blk_put (cs := #[.string (⟨#[]⟩ : ByteArray), .string (⟨#[]⟩ : ByteArray), .string (⟨#[]⟩ : ByteArray), .slice none 0 0]) ?_ 0 _ rfl; (with_reducible repeat (first | refine blk_drewN ?_ _ | refine blk_drew ?_ | refine blk_alloc ?_ _)); exact BK311.out) hb); have n4_ := bs HB hb; revert n0_ n1_ n2_ n3_ n4_; clear HO301 HO309 BK303 BK311 HB; intro HO301 HO309 BK303 BK311 HB; (try clear hb); have hcz59_0 := bc BK303 0; have hcz59_1 := bc BK303 1; have hcz59_2 := bc BK303 2; have hcz59_3 := bc BK303 3; have hfz59_0 := bf BK303 0; have hfz59_1 := bf BK303 1; have hfz59_2 := bf BK303 2; have hfz59_3 := bf BK303 3; have hcz60_0 := bc BK311 0; have hcz60_1 := bc BK311 1; have hcz60_2 := bc BK311 2; have hcz60_3 := bc BK311 3; have hfz60_0 := bf BK311 0; have hfz60_1 := bf BK311 1; have hfz60_2 := bf BK311 2; have hfz60_3 := bf BK311 3) | ((with_reducible refine gate_callee (f := 117) rfl ?_); refine gl 38 Tryz.func117 #[.string t297, .string t305] ?_; (with_reducible refine (r02_Cmp.calls k t297 t305 t313 _ A7.out).mono ?_); rintro e w61 ⟨rfl, hb⟩; refine ⟨_, rfl, ?_⟩; have n0_ := rb HO301 hb; have n1_ := rb HO309 hb; have n2_ := bb BK303 hb; have n3_ := bb BK311 hb; have n4_ := bs HB hb; revert n0_ n1_ n2_ n3_ n4_; clear HO301 HO309 BK303 BK311 HB; intro HO301 HO309 BK303 BK311 HB; (try clear hb); have hcz62_0 := bc BK303 0; have hcz62_1 := bc BK303 1; have hcz62_2 := bc BK303 2; have hcz62_3 := bc BK303 3; have hfz62_0 := bf BK303 0; have hfz62_1 := bf BK303 1; have hfz62_2 := bf BK303 2; have hfz62_3 := bf BK303 3; have hcz63_0 := bc BK311 0; have hcz63_1 := bc BK311 1; have hcz63_2 := bc BK311 2; have hcz63_3 := bc BK311 3; have hfz63_0 := bf BK311 0; have hfz63_1 := bf BK311 1; have hfz63_2 := bf BK311 2; have hfz63_3 := bf BK311 3) | ((with_reducible refine gate_callee (f := 117) rfl ?_); refine gl 46 Tryz.func117 #[.string t298, .string t306] ?_; (with_reducible refine (r02_Cmp.calls k t298 t306 t314 _ A9.out).mono ?_); rintro e w64 ⟨rfl, hb⟩; refine ⟨_, rfl, ?_⟩; have n0_ := rb HO301 hb; have n1_ := rb HO309 hb; have n2_ := bb BK303 hb; have n3_ := bb BK311 hb; have n4_ := bs HB hb; revert n0_ n1_ n2_ n3_ n4_; clear HO301 HO309 BK303 BK311 HB; intro HO301 HO309 BK303 BK311 HB; (try clear hb)))
    go_ret
    exact ⟨by first | rfl | (simp [errW_none, errW_some] <;> rfl) | (simp [*, errW_none, errW_some] <;> rfl), ba HB⟩
  ·rw [if_neg c8] at H
   have c8b0 := beq_eq_false_iff_ne.mpr c8
   have c8b1 := bne_iff_ne.mpr c8
   obtain rfl := Option.some.inj H
   go_enter Tryz.func83, Tryz.ntmps83
   go_wp2_with (first | ((with_reducible refine gate_callee (f := 116) rfl ?_); refine gl 18 Tryz.func116 #[.string a0] ?_; (with_reducible refine (r03_Split.calls k a0 t296 t297 t298 t299 t302 _ A3.out).mono ?_); rintro e w65 ⟨v300, rfl, ho0, hb⟩; refine ⟨_, rfl, ?_⟩; have n0_ := Aside0.mk (Kd.R_lower ho0 (bz HB)); have n1_ := bs HB hb; revert n0_ n1_; clear HB; intro HO301 HB; (try clear hb); (try clear ho0)) | ((with_reducible refine gate_dst (N := 5) rfl ?_); refine box_event ?hg (N := 5) ?hd (cs := #[.string (⟨#[]⟩ : ByteArray), .string (⟨#[]⟩ : ByteArray), .string (⟨#[]⟩ : ByteArray), .slice none 0 0]) (t := 146) ?hr ?_; (case hd => rfl); (case hg => rfl); (case hr => first | (go_simp; done) | (go_simp; rfl)); intro gb303 hg w66 hbox hb; have n0_ := rb HO301 hb; have n1_ := bs HB hb; have n2_ := Aside0.mk (hbox); have n3_ := gz hg HB; have n4_ := gz hg HB; revert n0_ n1_ n2_ n3_ n4_; clear HO301 HB; intro HO301 HB BK303 GW303 GE303; clear hb hbox hg; have hcz67_0 := bc BK303 0; have hcz67_1 := bc BK303 1; have hcz67_2 := bc BK303 2; have hcz67_3 := bc BK303 3; have hfz67_0 := bf BK303 0; have hfz67_1 := bf BK303 1; have hfz67_2 := bf BK303 2; have hfz67_3 := bf BK303 3; obtain ⟨Ao68, co68, eo68⟩ := Kd.R_slice HO301.out; subst eo68) | ((with_reducible refine gate_callee (f := 116) rfl ?_); refine gl 23 Tryz.func116 #[.string a1] ?_; (with_reducible refine (r03_Split.calls k a1 t304 t305 t306 t307 t310 _ A4.out).mono ?_); rintro e w69 ⟨v308, rfl, ho0, hb⟩; refine ⟨_, rfl, ?_⟩; have n0_ := Aside0.mk (Kd.R_elder' (by (with_reducible repeat (first | apply Kd.R_alloc | apply Kd.R_drewN | apply Kd.R_drew)); exact (Kd.R_mono (Kd.R_far (p := ⟨gb303, 3, none⟩) (Kd.R_far (p := ⟨gb303, 2, none⟩) (Kd.R_far (p := ⟨gb303, 1, none⟩) (Kd.R_far (p := ⟨gb303, 0, none⟩) (Kd.R_types HO301.out BK303.out (by decide)) (fun _ hk => hk.2) (.string t296)) (fun _ hk => hk.2) (.string t297)) (fun _ hk => hk.2) (.string t298)) (fun _ hk => hk.2) (.slice Ao68 t299.length co68)) (fun _ h_ => h_.1))) (Kd.R_base ho0) hb); have n1_ := Aside0.mk (Kd.R_lower (Kd.R_new' ho0 (Kd.R_lt (by (with_reducible repeat (first | apply Kd.R_alloc | apply Kd.R_drewN | apply Kd.R_drew)); exact (Kd.R_mono (Kd.R_far (p := ⟨gb303, 3, none⟩) (Kd.R_far (p := ⟨gb303, 2, none⟩) (Kd.R_far (p := ⟨gb303, 1, none⟩) (Kd.R_far (p := ⟨gb303, 0, none⟩) (Kd.R_types HO301.out BK303.out (by decide)) (fun _ hk => hk.2) (.string t296)) (fun _ hk => hk.2) (.string t297)) (fun _ hk => hk.2) (.string t298)) (fun _ hk => hk.2) (.slice Ao68 t299.length co68)) (fun _ h_ => h_.1))))) (bz HB)); have n2_ := Aside0.mk (blk_below (g := gb303) (o := .cells #[.string t296, .string t297, .string t298, .slice Ao68 t299.length co68] 146 (0, 0)) (by (with_reducible repeat (first | refine blk_drewN ?_ _ | refine blk_drew ?_ | refine blk_alloc ?_ _)); refine blk_put (cs := #[.string t296, .string t297, .string t298, .slice none 0 0]) ?_ 3 _ rfl; (with_reducible repeat (first | refine blk_drewN ?_ _ | refine blk_drew ?_ | refine blk_alloc ?_ _)); refine blk_put (cs := #[.string t296, .string t297, .string (⟨#[]⟩ : ByteArray), .slice none 0 0]) ?_ 2 _ rfl; (with_reducible repeat (first | refine blk_drewN ?_ _ | refine blk_drew ?_ | refine blk_alloc ?_ _)); refine blk_put (cs := #[.string t296, .string (⟨#[]⟩ : ByteArray), .string (⟨#[]⟩ : ByteArray), .slice none 0 0]) ?_ 1 _ rfl; (with_reducible repeat (first | refine blk_drewN ?_ _ | refine blk_drew ?_ | refine blk_alloc ?_ _)); refine blk_put (cs := #[.string (⟨#[]⟩ : ByteArray), .string (⟨#[]⟩ : ByteArray), .string (⟨#[]⟩ : ByteArray), .slice none 0 0]) ?_ 0 _ rfl; (with_reducible repeat (first | refine blk_drewN ?_ _ | refine blk_drew ?_ | refine blk_alloc ?_ _)); exact BK303.out) hb); have n3_ := bs HB hb; revert n0_ n1_ n2_ n3_; clear HO301 BK303 HB; intro HO301 HO309 BK303 HB; (try clear hb); (try clear ho0)) | ((with_reducible refine gate_dst (N := 7) rfl ?_); refine box_event ?hg (N := 7) ?hd (cs := #[.string (⟨#[]⟩ : ByteArray), .string (⟨#[]⟩ : ByteArray), .string (⟨#[]⟩ : ByteArray), .slice none 0 0]) (t := 146) ?hr ?_; (case hd => rfl); (case hg => rfl); (case hr => first | (go_simp; done) | (go_simp; rfl)); intro gb311 hg w70 hbox hb; have n0_ := rb HO301 hb; have n1_ := rb HO309 hb; have n2_ := bb BK303 hb; have n3_ := bs HB hb; have n4_ := Aside0.mk (hbox); have n5_ := gz hg HB; have n6_ := gz hg HB; have n7_ := Aside0.mk ((by rw [hg]; exact Nat.ne_of_lt (blk_lt (g := gb303) (o := .cells #[.string t296, .string t297, .string t298, .slice Ao68 t299.length co68] 146 (0, 0)) (bk BK303)) : gb303 ≠ gb311)); have n8_ := Aside0.mk ((by rw [hg]; exact Nat.ne_of_gt (blk_lt (g := gb303) (o := .cells #[.string t296, .string t297, .string t298, .slice Ao68 t299.length co68] 146 (0, 0)) (bk BK303)) : gb311 ≠ gb303)); revert n0_ n1_ n2_ n3_ n4_ n5_ n6_ n7_ n8_; clear HO301 HO309 BK303 HB; intro HO301 HO309 BK303 HB BK311 GW311 GE311 NB303_311 NB311_303; clear hb hbox hg; have hnb71 := NB311_303.out; have hnc71 := NB303_311.out; have hcz72_0 := bc BK311 0; have hcz72_1 := bc BK311 1; have hcz72_2 := bc BK311 2; have hcz72_3 := bc BK311 3; have hfz72_0 := bf BK311 0; have hfz72_1 := bf BK311 1; have hfz72_2 := bf BK311 2; have hfz72_3 := bf BK311 3; obtain ⟨Ao73, co73, eo73⟩ := Kd.R_slice HO309.out; subst eo73; have hcz74_0 := bc BK303 0; have hcz74_1 := bc BK303 1; have hcz74_2 := bc BK303 2; have hcz74_3 := bc BK303 3; have hfz74_0 := bf BK303 0; have hfz74_1 := bf BK303 1; have hfz74_2 := bf BK303 2; have hfz74_3 := bf BK303 3) | ((with_reducible refine gate_callee (f := 117) rfl ?_); refine gl 30 Tryz.func117 #[.string t296, .string t304] ?_; (with_reducible refine (r02_Cmp.calls k t296 t304 t312 _ A5.out).mono ?_); rintro e w75 ⟨rfl, hb⟩; refine ⟨_, rfl, ?_⟩; have n0_ := Aside0.mk (Kd.R_below (by (with_reducible repeat (first | apply Kd.R_alloc | apply Kd.R_drewN | apply Kd.R_drew)); exact (Kd.R_mono (Kd.R_far (p := ⟨gb311, 3, none⟩) (Kd.R_far (p := ⟨gb311, 2, none⟩) (Kd.R_far (p := ⟨gb311, 1, none⟩) (Kd.R_far (p := ⟨gb311, 0, none⟩) (Kd.R_types HO301.out BK311.out (by decide)) (fun _ hk => hk.2) (.string t304)) (fun _ hk => hk.2) (.string t305)) (fun _ hk => hk.2) (.string t306)) (fun _ hk => hk.2) (.slice Ao73 t307.length co73)) (fun _ h_ => h_.1))) hb); have n1_ := Aside0.mk (Kd.R_below (by (with_reducible repeat (first | apply Kd.R_alloc | apply Kd.R_drewN | apply Kd.R_drew)); exact (Kd.R_mono (Kd.R_far (p := ⟨gb311, 3, none⟩) (Kd.R_far (p := ⟨gb311, 2, none⟩) (Kd.R_far (p := ⟨gb311, 1, none⟩) (Kd.R_far (p := ⟨gb311, 0, none⟩) (Kd.R_types HO309.out BK311.out (by decide)) (fun _ hk => hk.2) (.string t304)) (fun _ hk => hk.2) (.string t305)) (fun _ hk => hk.2) (.string t306)) (fun _ hk => hk.2) (.slice Ao73 t307.length co73)) (fun _ h_ => h_.1))) hb); have n2_ := Aside0.mk (blk_below (g := gb303) (o := .cells #[.string t296, .string t297, .string t298, .slice Ao68 t299.length co68] 146 (0, 0)) (by (with_reducible repeat (first | refine blk_drewN ?_ _ | refine blk_drew ?_ | refine blk_alloc ?_ _)); refine blk_far ?_ NB303_311.out _; (with_reducible repeat (first | refine blk_drewN ?_ _ | refine blk_drew ?_ | refine blk_alloc ?_ _)); refine blk_far ?_ NB303_311.out _; (with_reducible repeat (first | refine blk_drewN ?_ _ | refine blk_drew ?_ | refine blk_alloc ?_ _)); refine blk_far ?_ NB303_311.out _; (with_reducible repeat (first | refine blk_drewN ?_ _ | refine blk_drew ?_ | refine blk_alloc ?_ _)); refine blk_far ?_ NB303_311.out _; (with_reducible repeat (first | refine blk_drewN ?_ _ | refine blk_drew ?_ | refine blk_alloc ?_ _)); exact BK303.out) hb); have n3_ := Aside0.mk (blk_below (g := gb311) (o := .cells #[.string t304, .string t305, .string t306, .slice Ao73 t307.length co73] 146 (0, 0)) (by (with_reducible repeat (first | refine blk_drewN ?_ _ | refine blk_drew ?_ | refine blk_alloc ?_ _)); refine blk_put (cs := #[.string t304, .string t305, .string t306, .slice none 0 0]) ?_ 3 _ rfl; (with_reducible repeat (first | refine blk_drewN ?_ _ | refine blk_drew ?_ | refine blk_alloc ?_ _)); refine blk_put (cs := #[.string t304, .string t305, .string (⟨#[]⟩ : ByteArray), .slice none 0 0]) ?_ 2 _ rfl; (with_reducible repeat (first | refine blk_drewN ?_ _ | refine blk_drew ?_ | refine blk_alloc ?_ _)); refine blk_put (cs := #[.string t304, .string (⟨#[]⟩ : ByteArray), .string (⟨#[]⟩ : ByteArray), .slice none 0 0]) ?_ 1 _ rfl; (with_reducible repeat (first | refine blk_drewN ?_ _ | refine blk_drew ?_ | refine blk_alloc ?_ _)); refine blk_put (cs := #[.string (⟨#[]⟩ : ByteArray), .string (⟨#[]⟩ : ByteArray), .string (⟨#[]⟩ : ByteArray), .slice none 0 0]) ?_ 0 _ rfl; (with_reducible repeat (first | refine blk_drewN ?_ _ | refine blk_drew ?_ | refine blk_alloc ?_ _)); exact BK311.out) hb); have n4_ := bs HB hb; revert n0_ n1_ n2_ n3_ n4_; clear HO301 HO309 BK303 BK311 HB; intro HO301 HO309 BK303 BK311 HB; (try clear hb); have hcz76_0 := bc BK303 0; have hcz76_1 := bc BK303 1; have hcz76_2 := bc BK303 2; have hcz76_3 := bc BK303 3; have hfz76_0 := bf BK303 0; have hfz76_1 := bf BK303 1; have hfz76_2 := bf BK303 2; have hfz76_3 := bf BK303 3; have hcz77_0 := bc BK311 0; have hcz77_1 := bc BK311 1; have hcz77_2 := bc BK311 2; have hcz77_3 := bc BK311 3; have hfz77_0 := bf BK311 0; have hfz77_1 := bf BK311 1; have hfz77_2 := bf BK311 2; have hfz77_3 := bf BK311 3) | ((with_reducible refine gate_callee (f := 117) rfl ?_); refine gl 38 Tryz.func117 #[.string t297, .string t305] ?_; (with_reducible refine (r02_Cmp.calls k t297 t305 t313 _ A7.out).mono ?_); rintro e w78 ⟨rfl, hb⟩; refine ⟨_, rfl, ?_⟩; have n0_ := rb HO301 hb; have n1_ := rb HO309 hb; have n2_ := bb BK303 hb; have n3_ := bb BK311 hb; have n4_ := bs HB hb; revert n0_ n1_ n2_ n3_ n4_; clear HO301 HO309 BK303 BK311 HB; intro HO301 HO309 BK303 BK311 HB; (try clear hb)))
   go_ret
   exact ⟨by first | rfl | (simp [errW_none, errW_some] <;> rfl) | (simp [*, errW_none, errW_some] <;> rfl), ba HB⟩
 ·rw [if_neg c6] at H
  have c6b0 := beq_eq_false_iff_ne.mpr c6
  have c6b1 := bne_iff_ne.mpr c6
  obtain rfl := Option.some.inj H
  go_enter Tryz.func83, Tryz.ntmps83
  go_wp2_with (first | ((with_reducible refine gate_callee (f := 116) rfl ?_); refine gl 18 Tryz.func116 #[.string a0] ?_; (with_reducible refine (r03_Split.calls k a0 t296 t297 t298 t299 t302 _ A3.out).mono ?_); rintro e w79 ⟨v300, rfl, ho0, hb⟩; refine ⟨_, rfl, ?_⟩; have n0_ := Aside0.mk (Kd.R_lower ho0 (bz HB)); have n1_ := bs HB hb; revert n0_ n1_; clear HB; intro HO301 HB; (try clear hb); (try clear ho0)) | ((with_reducible refine gate_dst (N := 5) rfl ?_); refine box_event ?hg (N := 5) ?hd (cs := #[.string (⟨#[]⟩ : ByteArray), .string (⟨#[]⟩ : ByteArray), .string (⟨#[]⟩ : ByteArray), .slice none 0 0]) (t := 146) ?hr ?_; (case hd => rfl); (case hg => rfl); (case hr => first | (go_simp; done) | (go_simp; rfl)); intro gb303 hg w80 hbox hb; have n0_ := rb HO301 hb; have n1_ := bs HB hb; have n2_ := Aside0.mk (hbox); have n3_ := gz hg HB; have n4_ := gz hg HB; revert n0_ n1_ n2_ n3_ n4_; clear HO301 HB; intro HO301 HB BK303 GW303 GE303; clear hb hbox hg; have hcz81_0 := bc BK303 0; have hcz81_1 := bc BK303 1; have hcz81_2 := bc BK303 2; have hcz81_3 := bc BK303 3; have hfz81_0 := bf BK303 0; have hfz81_1 := bf BK303 1; have hfz81_2 := bf BK303 2; have hfz81_3 := bf BK303 3; obtain ⟨Ao82, co82, eo82⟩ := Kd.R_slice HO301.out; subst eo82) | ((with_reducible refine gate_callee (f := 116) rfl ?_); refine gl 23 Tryz.func116 #[.string a1] ?_; (with_reducible refine (r03_Split.calls k a1 t304 t305 t306 t307 t310 _ A4.out).mono ?_); rintro e w83 ⟨v308, rfl, ho0, hb⟩; refine ⟨_, rfl, ?_⟩; have n0_ := Aside0.mk (Kd.R_elder' (by (with_reducible repeat (first | apply Kd.R_alloc | apply Kd.R_drewN | apply Kd.R_drew)); exact (Kd.R_mono (Kd.R_far (p := ⟨gb303, 3, none⟩) (Kd.R_far (p := ⟨gb303, 2, none⟩) (Kd.R_far (p := ⟨gb303, 1, none⟩) (Kd.R_far (p := ⟨gb303, 0, none⟩) (Kd.R_types HO301.out BK303.out (by decide)) (fun _ hk => hk.2) (.string t296)) (fun _ hk => hk.2) (.string t297)) (fun _ hk => hk.2) (.string t298)) (fun _ hk => hk.2) (.slice Ao82 t299.length co82)) (fun _ h_ => h_.1))) (Kd.R_base ho0) hb); have n1_ := Aside0.mk (Kd.R_lower (Kd.R_new' ho0 (Kd.R_lt (by (with_reducible repeat (first | apply Kd.R_alloc | apply Kd.R_drewN | apply Kd.R_drew)); exact (Kd.R_mono (Kd.R_far (p := ⟨gb303, 3, none⟩) (Kd.R_far (p := ⟨gb303, 2, none⟩) (Kd.R_far (p := ⟨gb303, 1, none⟩) (Kd.R_far (p := ⟨gb303, 0, none⟩) (Kd.R_types HO301.out BK303.out (by decide)) (fun _ hk => hk.2) (.string t296)) (fun _ hk => hk.2) (.string t297)) (fun _ hk => hk.2) (.string t298)) (fun _ hk => hk.2) (.slice Ao82 t299.length co82)) (fun _ h_ => h_.1))))) (bz HB)); have n2_ := Aside0.mk (blk_below (g := gb303) (o := .cells #[.string t296, .string t297, .string t298, .slice Ao82 t299.length co82] 146 (0, 0)) (by (with_reducible repeat (first | refine blk_drewN ?_ _ | refine blk_drew ?_ | refine blk_alloc ?_ _)); refine blk_put (cs := #[.string t296, .string t297, .string t298, .slice none 0 0]) ?_ 3 _ rfl; (with_reducible repeat (first | refine blk_drewN ?_ _ | refine blk_drew ?_ | refine blk_alloc ?_ _)); refine blk_put (cs := #[.string t296, .string t297, .string (⟨#[]⟩ : ByteArray), .slice none 0 0]) ?_ 2 _ rfl; (with_reducible repeat (first | refine blk_drewN ?_ _ | refine blk_drew ?_ | refine blk_alloc ?_ _)); refine blk_put (cs := #[.string t296, .string (⟨#[]⟩ : ByteArray), .string (⟨#[]⟩ : ByteArray), .slice none 0 0]) ?_ 1 _ rfl; (with_reducible repeat (first | refine blk_drewN ?_ _ | refine blk_drew ?_ | refine blk_alloc ?_ _)); refine blk_put (cs := #[.string (⟨#[]⟩ : ByteArray), .string (⟨#[]⟩ : ByteArray), .string (⟨#[]⟩ : ByteArray), .slice none 0 0]) ?_ 0 _ rfl; (with_reducible repeat (first | refine blk_drewN ?_ _ | refine blk_drew ?_ | refine blk_alloc ?_ _)); exact BK303.out) hb); have n3_ := bs HB hb; revert n0_ n1_ n2_ n3_; clear HO301 BK303 HB; intro HO301 HO309 BK303 HB; (try clear hb); (try clear ho0)) | ((with_reducible refine gate_dst (N := 7) rfl ?_); refine box_event ?hg (N := 7) ?hd (cs := #[.string (⟨#[]⟩ : ByteArray), .string (⟨#[]⟩ : ByteArray), .string (⟨#[]⟩ : ByteArray), .slice none 0 0]) (t := 146) ?hr ?_; (case hd => rfl); (case hg => rfl); (case hr => first | (go_simp; done) | (go_simp; rfl)); intro gb311 hg w84 hbox hb; have n0_ := rb HO301 hb; have n1_ := rb HO309 hb; have n2_ := bb BK303 hb; have n3_ := bs HB hb; have n4_ := Aside0.mk (hbox); have n5_ := gz hg HB; have n6_ := gz hg HB; have n7_ := Aside0.mk ((by rw [hg]; exact Nat.ne_of_lt (blk_lt (g := gb303) (o := .cells #[.string t296, .string t297, .string t298, .slice Ao82 t299.length co82] 146 (0, 0)) (bk BK303)) : gb303 ≠ gb311)); have n8_ := Aside0.mk ((by rw [hg]; exact Nat.ne_of_gt (blk_lt (g := gb303) (o := .cells #[.string t296, .string t297, .string t298, .slice Ao82 t299.length co82] 146 (0, 0)) (bk BK303)) : gb311 ≠ gb303)); revert n0_ n1_ n2_ n3_ n4_ n5_ n6_ n7_ n8_; clear HO301 HO309 BK303 HB; intro HO301 HO309 BK303 HB BK311 GW311 GE311 NB303_311 NB311_303; clear hb hbox hg; have hnb85 := NB311_303.out; have hnc85 := NB303_311.out; have hcz86_0 := bc BK311 0; have hcz86_1 := bc BK311 1; have hcz86_2 := bc BK311 2; have hcz86_3 := bc BK311 3; have hfz86_0 := bf BK311 0; have hfz86_1 := bf BK311 1; have hfz86_2 := bf BK311 2; have hfz86_3 := bf BK311 3; obtain ⟨Ao87, co87, eo87⟩ := Kd.R_slice HO309.out; subst eo87; have hcz88_0 := bc BK303 0; have hcz88_1 := bc BK303 1; have hcz88_2 := bc BK303 2; have hcz88_3 := bc BK303 3; have hfz88_0 := bf BK303 0; have hfz88_1 := bf BK303 1; have hfz88_2 := bf BK303 2; have hfz88_3 := bf BK303 3) | ((with_reducible refine gate_callee (f := 117) rfl ?_); refine gl 30 Tryz.func117 #[.string t296, .string t304] ?_; (with_reducible refine (r02_Cmp.calls k t296 t304 t312 _ A5.out).mono ?_); rintro e w89 ⟨rfl, hb⟩; refine ⟨_, rfl, ?_⟩; have n0_ := Aside0.mk (Kd.R_below (by (with_reducible repeat (first | apply Kd.R_alloc | apply Kd.R_drewN | apply Kd.R_drew)); exact (Kd.R_mono (Kd.R_far (p := ⟨gb311, 3, none⟩) (Kd.R_far (p := ⟨gb311, 2, none⟩) (Kd.R_far (p := ⟨gb311, 1, none⟩) (Kd.R_far (p := ⟨gb311, 0, none⟩) (Kd.R_types HO301.out BK311.out (by decide)) (fun _ hk => hk.2) (.string t304)) (fun _ hk => hk.2) (.string t305)) (fun _ hk => hk.2) (.string t306)) (fun _ hk => hk.2) (.slice Ao87 t307.length co87)) (fun _ h_ => h_.1))) hb); have n1_ := Aside0.mk (Kd.R_below (by (with_reducible repeat (first | apply Kd.R_alloc | apply Kd.R_drewN | apply Kd.R_drew)); exact (Kd.R_mono (Kd.R_far (p := ⟨gb311, 3, none⟩) (Kd.R_far (p := ⟨gb311, 2, none⟩) (Kd.R_far (p := ⟨gb311, 1, none⟩) (Kd.R_far (p := ⟨gb311, 0, none⟩) (Kd.R_types HO309.out BK311.out (by decide)) (fun _ hk => hk.2) (.string t304)) (fun _ hk => hk.2) (.string t305)) (fun _ hk => hk.2) (.string t306)) (fun _ hk => hk.2) (.slice Ao87 t307.length co87)) (fun _ h_ => h_.1))) hb); have n2_ := Aside0.mk (blk_below (g := gb303) (o := .cells #[.string t296, .string t297, .string t298, .slice Ao82 t299.length co82] 146 (0, 0)) (by (with_reducible repeat (first | refine blk_drewN ?_ _ | refine blk_drew ?_ | refine blk_alloc ?_ _)); refine blk_far ?_ NB303_311.out _; (with_reducible repeat (first | refine blk_drewN ?_ _ | refine blk_drew ?_ | refine blk_alloc ?_ _)); refine blk_far ?_ NB303_311.out _; (with_reducible repeat (first | refine blk_drewN ?_ _ | refine blk_drew ?_ | refine blk_alloc ?_ _)); refine blk_far ?_ NB303_311.out _; (with_reducible repeat (first | refine blk_drewN ?_ _ | refine blk_drew ?_ | refine blk_alloc ?_ _)); refine blk_far ?_ NB303_311.out _; (with_reducible repeat (first | refine blk_drewN ?_ _ | refine blk_drew ?_ | refine blk_alloc ?_ _)); exact BK303.out) hb); have n3_ := Aside0.mk (blk_below (g := gb311) (o := .cells #[.string t304, .string t305, .string t306, .slice Ao87 t307.length co87] 146 (0, 0)) (by (with_reducible repeat (first | refine blk_drewN ?_ _ | refine blk_drew ?_ | refine blk_alloc ?_ _)); refine blk_put (cs := #[.string t304, .string t305, .string t306, .slice none 0 0]) ?_ 3 _ rfl; (with_reducible repeat (first | refine blk_drewN ?_ _ | refine blk_drew ?_ | refine blk_alloc ?_ _)); refine blk_put (cs := #[.string t304, .string t305, .string (⟨#[]⟩ : ByteArray), .slice none 0 0]) ?_ 2 _ rfl; (with_reducible repeat (first | refine blk_drewN ?_ _ | refine blk_drew ?_ | refine blk_alloc ?_ _)); refine blk_put (cs := #[.string t304, .string (⟨#[]⟩ : ByteArray), .string (⟨#[]⟩ : ByteArray), .slice none 0 0]) ?_ 1 _ rfl; (with_reducible repeat (first | refine blk_drewN ?_ _ | refine blk_drew ?_ | refine blk_alloc ?_ _)); refine blk_put (cs := #[.string (⟨#[]⟩ : ByteArray), .string (⟨#[]⟩ : ByteArray), .string (⟨#[]⟩ : ByteArray), .slice none 0 0]) ?_ 0 _ rfl; (with_reducible repeat (first | refine blk_drewN ?_ _ | refine blk_drew ?_ | refine blk_alloc ?_ _)); exact BK311.out) hb); have n4_ := bs HB hb; revert n0_ n1_ n2_ n3_ n4_; clear HO301 HO309 BK303 BK311 HB; intro HO301 HO309 BK303 BK311 HB; (try clear hb)))
  go_ret
  exact ⟨by first | rfl | (simp [errW_none, errW_some] <;> rfl) | (simp [*, errW_none, errW_some] <;> rfl), ba HB⟩
end Go.Proofs.YtjfcmkddeglghaaGreatDoor.G
end
section
namespace Go.Proofs.YtjfcmkddeglghaaGreatDoor.G
open Go.RowKit Go.Proofs.YtjfcmkddeglghaaGreatDoorW.PrintWords Go.Proofs.YtjfcmkddeglghaaGreatDoorW.PrintLast Go.Proofs.YtjfcmkddeglghaaGreatDoorW.PrintMore
attribute [local go_sem] max2_int min2_int max_two min_two max_three min_three max_four min_four
set_option linter.unusedVariables false
set_option linter.unusedSimpArgs false
def r05_Less.f (k : Nat) (a0_0 : ByteArray) (a0_1 : ByteArray) (a1_0 : ByteArray) (a1_1 : ByteArray) : Option (Bool) := (r01_Cmp.f k a0_0 a1_0).bind fun t320 => (if t320 < 0 then (some true) else (if t320 = 0 then ((r03_Cmp.f k a0_1 a1_1).bind fun t321 => (some (decide (t321 < 0)))) else (some false)))
set_option maxHeartbeats 8000000 in
set_option maxRecDepth 100000 in
theorem r05_Less.calls (k : Nat) (a0_0 : ByteArray) (a0_1 : ByteArray) (a1_0 : ByteArray) (a1_1 : ByteArray) (r : Bool) (w : World) (h : r05_Less.f k a0_0 a0_1 a1_0 a1_1 = some r) :
  Calls Tryz.prog 28 #[.agg #[.string a0_0, .string a0_1], .agg #[.string a1_0, .string a1_1]] w fun e w' => e = .returned (.bool r) ∧ Below w.heap.size w w' := by
 have hu24 := Tryz.underlying24
 have HB := Aside0.mk (Below.refl w.heap.size w)
 have H : ((r01_Cmp.f k a0_0 a1_0).bind fun t320 => (if t320 < 0 then (some true) else (if t320 = 0 then ((r03_Cmp.f k a0_1 a1_1).bind fun t321 => (some (decide (t321 < 0)))) else (some false)))) = some r := h
 clear h
 obtain ⟨t320, A3, H⟩ := bo H
 by_cases c4 : t320 < 0
 ·rw [if_pos c4] at H
  have c4b0 : decide (t320 < 0) = true := decide_eq_true c4
  clear c4
  obtain rfl := Option.some.inj H
  go_enter Tryz.func28, Tryz.ntmps28
  go_wp2_with (first | ((with_reducible refine gate_dst (N := 2) rfl ?_); refine box_event ?hg (N := 2) ?hd (cs := #[.string a0_0, .string a0_1]) (t := 24) ?hr ?_; (case hd => rfl); (case hg => rfl); (case hr => first | (go_simp; done) | (go_simp; rfl)); intro gb318 hg w5 hbox hb; have n0_ := bs HB hb; have n1_ := Aside0.mk (hbox); have n2_ := gz hg HB; have n3_ := gz hg HB; revert n0_ n1_ n2_ n3_; clear HB; intro HB BK318 GW318 GE318; clear hb hbox hg) | ((with_reducible refine gate_dst (N := 3) rfl ?_); refine box_event ?hg (N := 3) ?hd (cs := #[.string a1_0, .string a1_1]) (t := 24) ?hr ?_; (case hd => rfl); (case hg => rfl); (case hr => first | (go_simp; done) | (go_simp; rfl)); intro gb319 hg w6 hbox hb; have n0_ := bb BK318 hb; have n1_ := bs HB hb; have n2_ := Aside0.mk (hbox); have n3_ := gz hg HB; have n4_ := gz hg HB; have n5_ := Aside0.mk ((by rw [hg]; exact Nat.ne_of_lt (blk_lt (g := gb318) (o := .cells #[.string a0_0, .string a0_1] 24 (0, 0)) (bk BK318)) : gb318 ≠ gb319)); have n6_ := Aside0.mk ((by rw [hg]; exact Nat.ne_of_gt (blk_lt (g := gb318) (o := .cells #[.string a0_0, .string a0_1] 24 (0, 0)) (bk BK318)) : gb319 ≠ gb318)); revert n0_ n1_ n2_ n3_ n4_ n5_ n6_; clear BK318 HB; intro BK318 HB BK319 GW319 GE319 NB318_319 NB319_318; clear hb hbox hg; have hnb7 := NB318_319.out; have hnc7 := NB319_318.out; have hcz8_0 := bc BK318 0; have hcz8_1 := bc BK318 1; have hfz8_0 := bf BK318 0; have hfz8_1 := bf BK318 1; have hcz9_0 := bc BK319 0; have hcz9_1 := bc BK319 1; have hfz9_0 := bf BK319 0; have hfz9_1 := bf BK319 1) | ((with_reducible refine gate_callee (f := 82) rfl ?_); refine gl 10 Tryz.func82 #[.string a0_0, .string a1_0] ?_; (with_reducible refine (r01_Cmp.calls k a0_0 a1_0 t320 _ A3.out).mono ?_); rintro e w' ⟨rfl, ⟨nd, rfl⟩⟩; refine ⟨_, rfl, ?_⟩))
  go_ret
  exact ⟨by first | rfl | (simp [errW_none, errW_some] <;> rfl) | (simp [*, errW_none, errW_some] <;> rfl), ba HB⟩
 ·rw [if_neg c4] at H
  have c4b0 : decide (t320 < 0) = false := decide_eq_false c4
  clear c4
  by_cases c10 : t320 = 0
  ·rw [if_pos c10] at H
   have c10b0 := beq_iff_eq.mpr c10
   have c10b1 := bne_eq_false_iff_eq.mpr c10
   clear c10
   obtain ⟨t321, A11, H⟩ := bo H
   obtain rfl := Option.some.inj H
   go_enter Tryz.func28, Tryz.ntmps28
   go_wp2_with (first | ((with_reducible refine gate_dst (N := 2) rfl ?_); refine box_event ?hg (N := 2) ?hd (cs := #[.string a0_0, .string a0_1]) (t := 24) ?hr ?_; (case hd => rfl); (case hg => rfl); (case hr => first | (go_simp; done) | (go_simp; rfl)); intro gb318 hg w12 hbox hb; have n0_ := bs HB hb; have n1_ := Aside0.mk (hbox); have n2_ := gz hg HB; have n3_ := gz hg HB; revert n0_ n1_ n2_ n3_; clear HB; intro HB BK318 GW318 GE318; clear hb hbox hg) | ((with_reducible refine gate_dst (N := 3) rfl ?_); refine box_event ?hg (N := 3) ?hd (cs := #[.string a1_0, .string a1_1]) (t := 24) ?hr ?_; (case hd => rfl); (case hg => rfl); (case hr => first | (go_simp; done) | (go_simp; rfl)); intro gb319 hg w13 hbox hb; have n0_ := bb BK318 hb; have n1_ := bs HB hb; have n2_ := Aside0.mk (hbox); have n3_ := gz hg HB; have n4_ := gz hg HB; have n5_ := Aside0.mk ((by rw [hg]; exact Nat.ne_of_lt (blk_lt (g := gb318) (o := .cells #[.string a0_0, .string a0_1] 24 (0, 0)) (bk BK318)) : gb318 ≠ gb319)); have n6_ := Aside0.mk ((by rw [hg]; exact Nat.ne_of_gt (blk_lt (g := gb318) (o := .cells #[.string a0_0, .string a0_1] 24 (0, 0)) (bk BK318)) : gb319 ≠ gb318)); revert n0_ n1_ n2_ n3_ n4_ n5_ n6_; clear BK318 HB; intro BK318 HB BK319 GW319 GE319 NB318_319 NB319_318; clear hb hbox hg; have hnb14 := NB318_319.out; have hnc14 := NB319_318.out; have hcz15_0 := bc BK318 0; have hcz15_1 := bc BK318 1; have hfz15_0 := bf BK318 0; have hfz15_1 := bf BK318 1; have hcz16_0 := bc BK319 0; have hcz16_1 := bc BK319 1; have hfz16_0 := bf BK319 0; have hfz16_1 := bf BK319 1) | ((with_reducible refine gate_callee (f := 82) rfl ?_); refine gl 10 Tryz.func82 #[.string a0_0, .string a1_0] ?_; (with_reducible refine (r01_Cmp.calls k a0_0 a1_0 t320 _ A3.out).mono ?_); rintro e w' ⟨rfl, ⟨nd, rfl⟩⟩; refine ⟨_, rfl, ?_⟩) | (go_at_call 83; (with_reducible refine (r03_Cmp.calls k a0_1 a1_1 t321 _ A11.out).mono ?_); rintro e w17 ⟨rfl, hb⟩; have n0_ := bb BK318 hb; have n1_ := bb BK319 hb; have n2_ := bs HB hb; revert n0_ n1_ n2_; clear BK318 BK319 HB; intro BK318 BK319 HB; (try clear hb)))
   go_ret
   exact ⟨by first | rfl | (simp [errW_none, errW_some] <;> rfl) | (simp [*, errW_none, errW_some] <;> rfl), ba HB⟩
  ·rw [if_neg c10] at H
   have c10b0 := beq_eq_false_iff_ne.mpr c10
   have c10b1 := bne_iff_ne.mpr c10
   obtain rfl := Option.some.inj H
   go_enter Tryz.func28, Tryz.ntmps28
   go_wp2_with (first | ((with_reducible refine gate_dst (N := 2) rfl ?_); refine box_event ?hg (N := 2) ?hd (cs := #[.string a0_0, .string a0_1]) (t := 24) ?hr ?_; (case hd => rfl); (case hg => rfl); (case hr => first | (go_simp; done) | (go_simp; rfl)); intro gb318 hg w18 hbox hb; have n0_ := bs HB hb; have n1_ := Aside0.mk (hbox); have n2_ := gz hg HB; have n3_ := gz hg HB; revert n0_ n1_ n2_ n3_; clear HB; intro HB BK318 GW318 GE318; clear hb hbox hg) | ((with_reducible refine gate_dst (N := 3) rfl ?_); refine box_event ?hg (N := 3) ?hd (cs := #[.string a1_0, .string a1_1]) (t := 24) ?hr ?_; (case hd => rfl); (case hg => rfl); (case hr => first | (go_simp; done) | (go_simp; rfl)); intro gb319 hg w19 hbox hb; have n0_ := bb BK318 hb; have n1_ := bs HB hb; have n2_ := Aside0.mk (hbox); have n3_ := gz hg HB; have n4_ := gz hg HB; have n5_ := Aside0.mk ((by rw [hg]; exact Nat.ne_of_lt (blk_lt (g := gb318) (o := .cells #[.string a0_0, .string a0_1] 24 (0, 0)) (bk BK318)) : gb318 ≠ gb319)); have n6_ := Aside0.mk ((by rw [hg]; exact Nat.ne_of_gt (blk_lt (g := gb318) (o := .cells #[.string a0_0, .string a0_1] 24 (0, 0)) (bk BK318)) : gb319 ≠ gb318)); revert n0_ n1_ n2_ n3_ n4_ n5_ n6_; clear BK318 HB; intro BK318 HB BK319 GW319 GE319 NB318_319 NB319_318; clear hb hbox hg; have hnb20 := NB318_319.out; have hnc20 := NB319_318.out; have hcz21_0 := bc BK318 0; have hcz21_1 := bc BK318 1; have hfz21_0 := bf BK318 0; have hfz21_1 := bf BK318 1; have hcz22_0 := bc BK319 0; have hcz22_1 := bc BK319 1; have hfz22_0 := bf BK319 0; have hfz22_1 := bf BK319 1) | ((with_reducible refine gate_callee (f := 82) rfl ?_); refine gl 10 Tryz.func82 #[.string a0_0, .string a1_0] ?_; (with_reducible refine (r01_Cmp.calls k a0_0 a1_0 t320 _ A3.out).mono ?_); rintro e w' ⟨rfl, ⟨nd, rfl⟩⟩; refine ⟨_, rfl, ?_⟩))
   go_ret
   exact ⟨by first | rfl | (simp [errW_none, errW_some] <;> rfl) | (simp [*, errW_none, errW_some] <;> rfl), ba HB⟩
end Go.Proofs.YtjfcmkddeglghaaGreatDoor.G
end
section
namespace Go.Proofs.YtjfcmkddeglghaaGreatDoor.G
open Go.RowKit Go.Proofs.YtjfcmkddeglghaaGreatDoorW.PrintWords Go.Proofs.YtjfcmkddeglghaaGreatDoorW.PrintLast Go.Proofs.YtjfcmkddeglghaaGreatDoorW.PrintMore
attribute [local go_sem] max2_int min2_int max_two min_two max_three min_three max_four min_four
set_option linter.unusedVariables false
set_option linter.unusedSimpArgs false
attribute [local go_sem high] eqA24
def api_Node_139.l0 : Nat → List (S24) → Int → Int → ByteArray → ByteArray → Option (Int)
 | 0, _, _, _, _, _ => none
 | k + 1, x0, x7, x8, x214000, x214001 => if x8 < x7 then (if 0 ≤ x8 then (if x8 < (x0.length : Int) then (if (x214000.toList == (((rd_T24 x0 x8).f0).toList) && (x214001.toList == (((rd_T24 x0 x8).f1).toList))) = true then (some x8) else (api_Node_139.l0 k x0 x7 (wrap64 (x8 + 1)) x214000 x214001)) else (none)) else (none)) else (some (-1))
def api_Node_139.f (k : Nat) (l0 : List (S24)) (a1_0 : ByteArray) (a1_1 : ByteArray) : Option (Int) := api_Node_139.l0 k l0 (l0.length : Int) 0 a1_0 a1_1
set_option maxHeartbeats 8000000 in
set_option maxRecDepth 100000 in
theorem api_Node_139.calls (k : Nat) (A0 : Option Addr) (c0 : Nat) (l0 : List (S24)) (a1_0 : ByteArray) (a1_1 : ByteArray) (r : Int) (w : World) (hr0 : Kd.C k24 w A0 l0.length l0) (hc0 : l0.length ≤ c0) (h : api_Node_139.f k l0 a1_0 a1_1 = some r) :
  Calls Tryz.prog 139 #[.slice A0 l0.length c0, .agg #[.string a1_0, .string a1_1]] w fun e w' => e = .returned (.int .i64 r) ∧ Below w.heap.size w w' := by
 have hu24 := Tryz.underlying24
 have HR0 := Aside0.mk hr0
 have HC0 := Aside0.mk hc0
 clear hr0 hc0
 have HB := Aside0.mk (Below.refl w.heap.size w)
 have H : (api_Node_139.l0 k l0 (l0.length : Int) 0 a1_0 a1_1) = some r := h
 clear h
 have H' := Aside0.mk H
 clear H
 go_enter Tryz.func139, Tryz.ntmps139
 go_wp2_with (first | ((with_reducible refine gate_dst (N := 3) rfl ?_); refine box_event ?hg (N := 3) ?hd (cs := #[.string a1_0, .string a1_1]) (t := 24) ?hr ?_; (case hd => rfl); (case hg => rfl); (case hr => first | (go_simp; done) | (go_simp; rfl)); intro gb213 hg w3 hbox hb; have n0_ := bs HB hb; have n1_ := Aside0.mk (hbox); have n2_ := gz hg HB; have n3_ := gz hg HB; revert n0_ n1_ n2_ n3_; clear HB; intro HB BK213 GW213 GE213; clear hb hbox hg))
 repeat (go_quiet (first | ((with_reducible refine gate_dst (N := 3) rfl ?_); refine box_event ?hg (N := 3) ?hd (cs := #[.string a1_0, .string a1_1]) (t := 24) ?hr ?_; (case hd => rfl); (case hg => rfl); (case hr => first | (go_simp; done) | (go_simp; rfl)); intro gb213 hg w3 hbox hb; have n0_ := bs HB hb; have n1_ := Aside0.mk (hbox); have n2_ := gz hg HB; have n3_ := gz hg HB; revert n0_ n1_ n2_ n3_; clear HB; intro HB BK213 GW213 GE213; clear hb hbox hg)); try go_wp2_with (first | ((with_reducible refine gate_dst (N := 3) rfl ?_); refine box_event ?hg (N := 3) ?hd (cs := #[.string a1_0, .string a1_1]) (t := 24) ?hr ?_; (case hd => rfl); (case hg => rfl); (case hr => first | (go_simp; done) | (go_simp; rfl)); intro gb213 hg w3 hbox hb; have n0_ := bs HB hb; have n1_ := Aside0.mk (hbox); have n2_ := gz hg HB; have n3_ := gz hg HB; revert n0_ n1_ n2_ n3_; clear HB; intro HB BK213 GW213 GE213; clear hb hbox hg)))
 go_loopg [8] k (fun kq v8 w' => ∃ (x8_1 : Int), v8 = .int .i64 x8_1 ∧ Aside0 (api_Node_139.l0 kq l0 (l0.length : Int) x8_1 a1_0 a1_1 = some r) ∧ Aside0 (kq ≤ k) ∧ Aside0 (w'.heap[gb213]? = some (.cells #[.string a1_0, .string a1_1] 24 (0, 0))) ∧ Aside0 (Below w.heap.size w w'))
 case atStart => exact ⟨(0), (by first | rfl | (simp; done) | (simp [*]; done)), H', ⟨Nat.le_refl _⟩, ⟨by (with_reducible repeat (first | refine blk_drewN ?_ _ | refine blk_drew ?_ | refine blk_alloc ?_ _)); exact BK213.out⟩, ⟨ba HB⟩⟩
 case round =>
  clear H'
  try clear c1
  try clear p2
  obtain ⟨x8_1, rfl, HA, HK1, BK213, HB⟩ := hrel
  cases gk with
  | zero => exact absurd HA.out (by simp [api_Node_139.l0])
  | succ k1 =>
   have H := HA.out
   clear HA
   simp only [api_Node_139.l0] at H
   by_cases c4 : x8_1 < (l0.length : Int)
   ·rw [if_pos c4] at H
    have c4b0 : decide (x8_1 < (l0.length : Int)) = true := decide_eq_true c4
    clear c4
    by_cases c5 : 0 ≤ x8_1
    ·rw [if_pos c5] at H
     have c5b0 : decide (0 ≤ x8_1) = true := decide_eq_true c5
     clear c5
     by_cases c6 : x8_1 < (l0.length : Int)
     ·rw [if_pos c6] at H
      have c6b0 : decide (x8_1 < (l0.length : Int)) = true := decide_eq_true c6
      clear c6
      by_cases c7 : (a1_0.toList == (((rd_T24 l0 x8_1).f0).toList) && (a1_1.toList == (((rd_T24 l0 x8_1).f1).toList))) = true
      ·rw [if_pos c7] at H
       have c7b0 : (a1_0.toList == (((rd_T24 l0 x8_1).f0).toList) && (a1_1.toList == (((rd_T24 l0 x8_1).f1).toList))) = true := c7
       (try (have c7b1 : decide (a1_0.toList = (((rd_T24 l0 x8_1).f0).toList) && (a1_1.toList == (((rd_T24 l0 x8_1).f1).toList))) = true := by simpa using c7))
       (try (have c7b2 : (a1_0.toList == (((rd_T24 l0 x8_1).f0).toList) && (a1_1.toList == (((rd_T24 l0 x8_1).f1).toList))) = true := by simpa using c7))
       clear c7
       obtain rfl := Option.some.inj H
       have hcz8_0 := bc BK213 0
       have hcz8_1 := bc BK213 1
       have hfz8_0 := bf BK213 0
       have hfz8_1 := bf BK213 1
       have p214 : 0 ≤ (x8_1 : Int) := of_decide_eq_true (by first | (with_reducible assumption) | assumption)
       have q214 : x8_1 < (l0.length : Int) := of_decide_eq_true (by first | (with_reducible assumption) | assumption)
       obtain ⟨ad214, e214, hx214_0, hx214_1⟩ := at_T24 HR0.out x8_1 p214 q214
       cases e214
       replace hx214_0 := (HB.out.cell (World.block_lt_of_cell? w _ hx214_0)).trans hx214_0
       replace hx214_1 := (HB.out.cell (World.block_lt_of_cell? w _ hx214_1)).trans hx214_1
       replace p214 := eq_true p214
       replace q214 := eq_true q214
       go_wp2
       repeat (go_quiet (fail); try go_wp2)
       go_ret
       exact ⟨by first | rfl | (simp [errW_none, errW_some] <;> rfl) | (simp [*, errW_none, errW_some] <;> rfl), ba HB⟩
      ·rw [if_neg c7] at H
       have c7b0 : (a1_0.toList == (((rd_T24 l0 x8_1).f0).toList) && (a1_1.toList == (((rd_T24 l0 x8_1).f1).toList))) = false := by simpa using c7
       (try (have c7b1 : decide (a1_0.toList = (((rd_T24 l0 x8_1).f0).toList) && (a1_1.toList == (((rd_T24 l0 x8_1).f1).toList))) = false := by simpa using c7))
       (try (have c7b2 : (a1_0.toList == (((rd_T24 l0 x8_1).f0).toList) && (a1_1.toList == (((rd_T24 l0 x8_1).f1).toList))) = false := by simpa using c7))
       (try (have c7b3 : ¬ (a1_0.toList = (((rd_T24 l0 x8_1).f0).toList) && (a1_1.toList == (((rd_T24 l0 x8_1).f1).toList))) := by simpa using c7))
       clear c7
       have H' := Aside0.mk H
       clear H
       have hcz9_0 := bc BK213 0
       have hcz9_1 := bc BK213 1
       have hfz9_0 := bf BK213 0
       have hfz9_1 := bf BK213 1
       have p214 : 0 ≤ (x8_1 : Int) := of_decide_eq_true (by first | (with_reducible assumption) | assumption)
       have q214 : x8_1 < (l0.length : Int) := of_decide_eq_true (by first | (with_reducible assumption) | assumption)
       obtain ⟨ad214, e214, hx214_0, hx214_1⟩ := at_T24 HR0.out x8_1 p214 q214
       cases e214
       replace hx214_0 := (HB.out.cell (World.block_lt_of_cell? w _ hx214_0)).trans hx214_0
       replace hx214_1 := (HB.out.cell (World.block_lt_of_cell? w _ hx214_1)).trans hx214_1
       replace p214 := eq_true p214
       replace q214 := eq_true q214
       go_wp2
       repeat (go_quiet (fail); try go_wp2)
       go_roundg k1
       case measure => have := HK1.out; omega
       case rel => exact ⟨(wrap64 (x8_1 + 1)), (by first | rfl | (simp; done) | (simp [*]; done)), H', ⟨by have := HK1.out; omega⟩, ⟨by (with_reducible repeat (first | refine blk_drewN ?_ _ | refine blk_drew ?_ | refine blk_alloc ?_ _)); exact BK213.out⟩, ⟨ba HB⟩⟩
     ·rw [if_neg c6] at H
      exact absurd H (by simp)
    ·rw [if_neg c5] at H
     exact absurd H (by simp)
   ·rw [if_neg c4] at H
    have c4b0 : decide (x8_1 < (l0.length : Int)) = false := decide_eq_false c4
    clear c4
    obtain rfl := Option.some.inj H
    go_wp2
    repeat (go_quiet (fail); try go_wp2)
    go_ret
    exact ⟨by first | rfl | (simp [errW_none, errW_some] <;> rfl) | (simp [*, errW_none, errW_some] <;> rfl), ba HB⟩
end Go.Proofs.YtjfcmkddeglghaaGreatDoor.G
end
section
namespace Go.Proofs.YtjfcmkddeglghaaGreatDoor.G
open Go.RowKit Go.Proofs.YtjfcmkddeglghaaGreatDoorW.PrintWords Go.Proofs.YtjfcmkddeglghaaGreatDoorW.PrintLast Go.Proofs.YtjfcmkddeglghaaGreatDoorW.PrintMore
attribute [local go_sem] max2_int min2_int max_two min_two max_three min_three max_four min_four
set_option linter.unusedVariables false
set_option linter.unusedSimpArgs false
def api_Node_111.f (k : Nat) (l0 : List (S24)) (a1_0 : ByteArray) (a1_1 : ByteArray) : Option (Bool) := (api_Node_139.f k l0 a1_0 a1_1).bind fun t216 => (some (decide (t216 ≥ 0)))
set_option maxHeartbeats 8000000 in
set_option maxRecDepth 100000 in
theorem api_Node_111.calls (k : Nat) (A0 : Option Addr) (c0 : Nat) (l0 : List (S24)) (a1_0 : ByteArray) (a1_1 : ByteArray) (r : Bool) (w : World) (hr0 : Kd.C k24 w A0 l0.length l0) (hc0 : l0.length ≤ c0) (h : api_Node_111.f k l0 a1_0 a1_1 = some r) :
  Calls Tryz.prog 111 #[.slice A0 l0.length c0, .agg #[.string a1_0, .string a1_1]] w fun e w' => e = .returned (.bool r) ∧ Below w.heap.size w w' := by
 have hu24 := Tryz.underlying24
 have HR0 := Aside0.mk hr0
 have HC0 := Aside0.mk hc0
 clear hr0 hc0
 have HB := Aside0.mk (Below.refl w.heap.size w)
 have H : ((api_Node_139.f k l0 a1_0 a1_1).bind fun t216 => (some (decide (t216 ≥ 0)))) = some r := h
 clear h
 obtain ⟨t216, A3, H⟩ := bo H
 obtain rfl := Option.some.inj H
 go_enter Tryz.func111, Tryz.ntmps111
 go_wp2_with (first | ((with_reducible refine gate_dst (N := 3) rfl ?_); refine box_event ?hg (N := 3) ?hd (cs := #[.string a1_0, .string a1_1]) (t := 24) ?hr ?_; (case hd => rfl); (case hg => rfl); (case hr => first | (go_simp; done) | (go_simp; rfl)); intro gb215 hg w4 hbox hb; have n0_ := bs HB hb; have n1_ := Aside0.mk (hbox); have n2_ := gz hg HB; have n3_ := gz hg HB; revert n0_ n1_ n2_ n3_; clear HB; intro HB BK215 GW215 GE215; clear hb hbox hg; have hcz5_0 := bc BK215 0; have hcz5_1 := bc BK215 1; have hfz5_0 := bf BK215 0; have hfz5_1 := bf BK215 1) | ((with_reducible refine gate_callee (f := 139) rfl ?_); refine gl 7 Tryz.func139 #[.slice A0 l0.length c0, .agg #[.string a1_0, .string a1_1]] ?_; (with_reducible refine (api_Node_139.calls k _ _ l0 a1_0 a1_1 t216 _ ?side1 ?side2 A3.out).mono ?_); (case side1 => repeat (first | exact (Kd.C_below HR0.out HB.out) | (with_reducible refine Kd.C_alloc ?_ _) | (with_reducible refine Kd.C_drewN ?_ _) | (with_reducible refine Kd.C_drew ?_))); (case side2 => exact HC0.out); rintro e w6 ⟨rfl, hb⟩; refine ⟨_, rfl, ?_⟩; have n0_ := bb BK215 hb; have n1_ := bs HB hb; revert n0_ n1_; clear BK215 HB; intro BK215 HB; (try clear hb)))
 go_ret
 exact ⟨by first | rfl | (simp [errW_none, errW_some] <;> rfl) | (simp [*, errW_none, errW_some] <;> rfl), ba HB⟩
end Go.Proofs.YtjfcmkddeglghaaGreatDoor.G
end
section
set_option linter.unusedVariables false
set_option linter.unusedSimpArgs false
namespace Gw
structure TotalOn {α : Type} (p : α → Prop) (c : α → α → Int) : Prop where
  self : ∀ a, c a a = 0
  anti : ∀ a b, c b a = - c a b
  eq0 : ∀ a b, p a → p b → c a b = 0 → a = b
  trans : ∀ a b d, p a → p b → p d → c a b < 0 → c b d < 0 → c a d < 0
def Any {α : Type} (_ : α) : Prop := True
def or3 (x y : Int) : Int := if x = 0 then y else x
theorem or3_neg {x y : Int} : or3 x y < 0 ↔ x < 0 ∨ x = 0 ∧ y < 0 := by
  unfold or3; split <;> omega
theorem or3_zero {x y : Int} : or3 x y = 0 ↔ x = 0 ∧ y = 0 := by
  unfold or3; split <;> omega
theorem or3_anti (x y : Int) : or3 (-x) (-y) = - or3 x y := by
  unfold or3; split <;> split <;> omega
theorem TotalOn.lex {α β γ : Type} {p : γ → Prop} {pa : α → Prop} {pb : β → Prop} {ca : α → α → Int} {cb : β → β → Int} (ha : TotalOn pa ca) (hb : TotalOn pb cb) (f : γ → α) (g : γ → β)
    (hf : ∀ x, p x → pa (f x)) (hg : ∀ x, p x → pb (g x)) (inj : ∀ x y, p x → p y → f x = f y → g x = g y → x = y) : TotalOn p fun x y => or3 (ca (f x) (f y)) (cb (g x) (g y)) where
  self a := by simp [or3, ha.self, hb.self]
  anti a b := by rw [ha.anti (f a), hb.anti (g a), or3_anti]
  eq0 a b pa' pb' h := by
    obtain ⟨h1, h2⟩ := or3_zero.1 h
    exact inj a b pa' pb' (ha.eq0 _ _ (hf _ pa') (hf _ pb') h1) (hb.eq0 _ _ (hg _ pa') (hg _ pb') h2)
  trans a b d p1 p2 p3 h1 h2 := by
    rw [or3_neg] at *
    rcases h1 with h1 | ⟨h1, k1⟩ <;> rcases h2 with h2 | ⟨h2, k2⟩
    · exact .inl (ha.trans _ _ _ (hf _ p1) (hf _ p2) (hf _ p3) h1 h2)
    · have := ha.eq0 _ _ (hf _ p2) (hf _ p3) h2
      rw [← this]; exact .inl h1
    · have := ha.eq0 _ _ (hf _ p1) (hf _ p2) h1
      rw [this]; exact .inl h2
    · have e1 := ha.eq0 _ _ (hf _ p1) (hf _ p2) h1
      exact .inr ⟨by rw [e1, h2], hb.trans _ _ _ (hg _ p1) (hg _ p2) (hg _ p3) k1 k2⟩
theorem TotalOn.comap {α γ : Type} {p : γ → Prop} {pa : α → Prop} {ca : α → α → Int} (ha : TotalOn pa ca) (f : γ → α) (hf : ∀ x, p x → pa (f x)) (inj : ∀ x y, p x → p y → f x = f y → x = y) : TotalOn p fun x y => ca (f x) (f y) where
  self a := ha.self _
  anti a b := ha.anti _ _
  eq0 a b p1 p2 h := inj a b p1 p2 (ha.eq0 _ _ (hf _ p1) (hf _ p2) h)
  trans a b d p1 p2 p3 := ha.trans _ _ _ (hf _ p1) (hf _ p2) (hf _ p3)
def cmpN (a b : Nat) : Int := if a < b then -1 else if b < a then 1 else 0
theorem cmpN_total : TotalOn Any cmpN where
  self a := by simp [cmpN]
  anti a b := by unfold cmpN; split <;> split <;> omega
  eq0 a b _ _ h := by unfold cmpN at h; split at h <;> (try split at h) <;> omega
  trans a b d _ _ _ h1 h2 := by
    have : a < b := by unfold cmpN at h1; split at h1 <;> (try split at h1) <;> omega
    have : b < d := by unfold cmpN at h2; split at h2 <;> (try split at h2) <;> omega
    unfold cmpN; rw [if_pos (by omega)]; omega
def cmpLs {α : Type} (c : α → α → Int) : List α → List α → Int
  | [], [] => 0
  | [], _ :: _ => -1
  | _ :: _, [] => 1
  | a :: s, b :: t => or3 (c a b) (cmpLs c s t)
theorem cmpLs_total {α : Type} {c : α → α → Int} {p : α → Prop} (h : TotalOn p c) : TotalOn (fun l => ∀ x ∈ l, p x) (cmpLs c) where
  self a := by
    induction a with
    | nil => rfl
    | cons x s ih => simp [cmpLs, or3, h.self, ih]
  anti a := by
    induction a with
    | nil => intro b; cases b <;> simp [cmpLs]
    | cons x s ih =>
      intro b
      cases b with
      | nil => simp [cmpLs]
      | cons y t => simp only [cmpLs]; rw [h.anti x, ih, or3_anti]
  eq0 a := by
    induction a with
    | nil => intro b _ _ h; cases b <;> simp [cmpLs] at h ⊢
    | cons x s ih =>
      intro b ha hb e
      cases b with
      | nil => simp [cmpLs] at e
      | cons y t =>
        simp only [cmpLs] at e
        obtain ⟨e1, e2⟩ := or3_zero.1 e
        have := h.eq0 x y (ha _ (by simp)) (hb _ (by simp)) e1
        have := ih t (fun z hz => ha _ (by simp [hz])) (fun z hz => hb _ (by simp [hz])) e2
        subst_vars; rfl
  trans a := by
    induction a with
    | nil => intro b d _ _ _ h1 h2; cases b <;> cases d <;> simp [cmpLs] at *
    | cons x s ih =>
      intro b d ha hb hd h1 h2
      cases b with
      | nil => simp [cmpLs] at h1
      | cons y t =>
        cases d with
        | nil => simp [cmpLs] at h2
        | cons z u =>
          simp only [cmpLs] at *
          have px := ha x (by simp)
          have py := hb y (by simp)
          have pz := hd z (by simp)
          have hs : ∀ w ∈ s, p w := fun w hw => ha _ (by simp [hw])
          have ht : ∀ w ∈ t, p w := fun w hw => hb _ (by simp [hw])
          have hu : ∀ w ∈ u, p w := fun w hw => hd _ (by simp [hw])
          rw [or3_neg] at *
          rcases h1 with h1 | ⟨h1, k1⟩ <;> rcases h2 with h2 | ⟨h2, k2⟩
          · exact .inl (h.trans _ _ _ px py pz h1 h2)
          · have := h.eq0 _ _ py pz h2
            rw [← this]; exact .inl h1
          · have := h.eq0 _ _ px py h1
            rw [this]; exact .inl h2
          · have e1 := h.eq0 _ _ px py h1
            exact .inr ⟨by rw [e1, h2], ih t u hs ht hu k1 k2⟩
section
variable {α : Type} (c : α → α → Int)
def Sorted (l : List α) : Prop := l.Pairwise fun a b => c a b < 0
def withS (l : List α) (n : α) : List α := l.filter (fun x => decide (c x n < 0)) ++ n :: l.filter (fun x => decide (c n x < 0))
def setS (l : List α) : List α := l.foldl (withS c) []
variable {c} {p : α → Prop} (h : TotalOn p c)
include h
theorem TotalOn.lt_or (a b : α) (ha : p a) (hb : p b) : c a b < 0 ∨ a = b ∨ c b a < 0 := by
  have := h.anti a b
  rcases Int.lt_trichotomy (c a b) 0 with h1 | h1 | h1
  · exact .inl h1
  · exact .inr (.inl (h.eq0 a b ha hb h1))
  · exact .inr (.inr (by omega))
theorem TotalOn.irrefl (a : α) : ¬ c a a < 0 := by have := h.self a; omega
theorem TotalOn.asymm {a b : α} (h1 : c a b < 0) : ¬ c b a < 0 := by have := h.anti a b; omega
theorem mem_withS {l : List α} {n x : α} (hl : ∀ y ∈ l, p y) (hn : p n) : x ∈ withS c l n ↔ x ∈ l ∨ x = n := by
  simp only [withS, List.mem_append, List.mem_filter, List.mem_cons, decide_eq_true_eq]
  constructor
  · rintro (⟨h1, _⟩ | h1 | ⟨h1, _⟩)
    · exact .inl h1
    · exact .inr h1
    · exact .inl h1
  · rintro (h1 | h1)
    · rcases h.lt_or x n (hl _ h1) hn with h2 | h2 | h2
      · exact .inl ⟨h1, h2⟩
      · exact .inr (.inl h2)
      · exact .inr (.inr ⟨h1, h2⟩)
    · exact .inr (.inl h1)
theorem withS_all {l : List α} {n : α} (hl : ∀ y ∈ l, p y) (hn : p n) : ∀ y ∈ withS c l n, p y := by
  intro y hy
  rcases (mem_withS h hl hn).1 hy with h1 | rfl
  · exact hl _ h1
  · exact hn
theorem withS_sorted {l : List α} {n : α} (hl : ∀ y ∈ l, p y) (hn : p n) (hs : Sorted c l) : Sorted c (withS c l n) := by
  unfold Sorted withS at *
  rw [List.pairwise_append, List.pairwise_cons]
  refine ⟨hs.filter _, ⟨?_, hs.filter _⟩, ?_⟩
  · intro a ha; simpa using (List.mem_filter.1 ha).2
  · intro a ha b hb
    obtain ⟨ha1, ha2⟩ := List.mem_filter.1 ha
    simp only [decide_eq_true_eq] at ha2
    rcases List.mem_cons.1 hb with rfl | hb
    · exact ha2
    · obtain ⟨hb1, hb2⟩ := List.mem_filter.1 hb
      simp only [decide_eq_true_eq] at hb2
      exact h.trans _ _ _ (hl _ ha1) hn (hl _ hb1) ha2 hb2
theorem foldl_withS (l : List α) : ∀ acc : List α, (∀ y ∈ acc, p y) → (∀ y ∈ l, p y) → Sorted c acc →
    Sorted c (l.foldl (withS c) acc) ∧ (∀ y ∈ l.foldl (withS c) acc, p y) ∧ ∀ x, x ∈ l.foldl (withS c) acc ↔ x ∈ acc ∨ x ∈ l := by
  induction l with
  | nil => intro acc h1 _ h3; exact ⟨h3, h1, fun x => by simp⟩
  | cons n l ih =>
    intro acc h1 h2 h3
    have hn := h2 n (by simp)
    obtain ⟨a, b, d⟩ := ih (withS c acc n) (withS_all h h1 hn) (fun y hy => h2 _ (by simp [hy])) (withS_sorted h h1 hn h3)
    refine ⟨a, b, fun x => ?_⟩
    rw [List.foldl_cons, d, mem_withS h h1 hn, List.mem_cons, or_assoc]
theorem setS_sorted {l : List α} (hl : ∀ y ∈ l, p y) : Sorted c (setS c l) := (foldl_withS h l [] (by simp) hl List.Pairwise.nil).1
theorem mem_setS {l : List α} (hl : ∀ y ∈ l, p y) {x : α} : x ∈ setS c l ↔ x ∈ l := by
  have := (foldl_withS h l [] (by simp) hl List.Pairwise.nil).2.2 x
  simpa [setS] using this
theorem sorted_ext {l m : List α} (hl : Sorted c l) (hm : Sorted c m) (e : ∀ x, x ∈ l ↔ x ∈ m) : l = m := by
  induction l generalizing m with
  | nil =>
    cases m with
    | nil => rfl
    | cons a m => have := (e a).2 (by simp); simp at this
  | cons a l ih =>
    cases m with
    | nil => have := (e a).1 (by simp); simp at this
    | cons b m =>
      unfold Sorted at *
      rw [List.pairwise_cons] at hl hm
      have hab : a = b := by
        have h1 := (e a).1 (by simp)
        have h2 := (e b).2 (by simp)
        rcases List.mem_cons.1 h1 with h1 | h1
        · exact h1
        · rcases List.mem_cons.1 h2 with h2 | h2
          · exact h2.symm
          · exact absurd (hm.1 _ h1) (h.asymm (hl.1 _ h2))
      subst hab
      congr 1
      refine ih hl.2 hm.2 fun x => ?_
      have hx := e x
      constructor
      · intro h1
        rcases List.mem_cons.1 (hx.1 (by simp [h1])) with h2 | h2
        · subst h2; exact absurd (hl.1 _ h1) (h.irrefl _)
        · exact h2
      · intro h1
        rcases List.mem_cons.1 (hx.2 (by simp [h1])) with h2 | h2
        · subst h2; exact absurd (hm.1 _ h1) (h.irrefl _)
        · exact h2
theorem sorted_nodup {l : List α} (hl : Sorted c l) : l.Nodup := by
  unfold Sorted at hl
  exact hl.imp fun {a b} h1 e => by subst e; exact h.irrefl _ h1
end
end Gw
end
section
set_option linter.unusedVariables false
set_option linter.unusedSimpArgs false
namespace Gw
abbrev Str := List UInt8
def cmpB (a b : UInt8) : Int := cmpN a.toNat b.toNat
theorem cmpB_total : TotalOn Any cmpB := cmpN_total.comap UInt8.toNat (fun _ _ => trivial) fun x y _ _ h => UInt8.toNat_inj.1 h
def cmpS : Str → Str → Int := cmpLs cmpB
theorem cmpS_total : TotalOn Any cmpS := by
  have h := cmpLs_total cmpB_total
  exact ⟨h.self, h.anti, fun a b _ _ => h.eq0 a b (fun _ _ => trivial) (fun _ _ => trivial), fun a b d _ _ _ => h.trans a b d (fun _ _ => trivial) (fun _ _ => trivial) (fun _ _ => trivial)⟩
def parts (sep : UInt8) : Str → List Str
  | [] => [[]]
  | c :: s => if c = sep then [] :: parts sep s else match parts sep s with
    | [] => [[c]]
    | h :: t => (c :: h) :: t
def joinS (sep : UInt8) : List Str → Str
  | [] => []
  | [a] => a
  | a :: b :: l => a ++ sep :: joinS sep (b :: l)
theorem parts_ne (sep : UInt8) (s : Str) : parts sep s ≠ [] := by
  cases s with
  | nil => simp [parts]
  | cons c s => simp only [parts]; split <;> (try split) <;> simp
theorem joinS_cons (sep : UInt8) (a : Str) (l : List Str) (h : l ≠ []) : joinS sep (a :: l) = a ++ sep :: joinS sep l := by
  cases l with
  | nil => exact absurd rfl h
  | cons b l => rfl
theorem join_parts (sep : UInt8) (s : Str) : joinS sep (parts sep s) = s := by
  induction s with
  | nil => rfl
  | cons c s ih =>
    simp only [parts]
    split
    · rename_i h; subst h; rw [joinS_cons _ _ _ (parts_ne _ _), ih]; rfl
    · have := parts_ne sep s
      split
      · rename_i h; exact absurd h this
      · rename_i h t e
        rw [e] at ih
        cases t with
        | nil => simp only [joinS] at *; rw [ih]
        | cons b t => simp only [joinS] at *; rw [← ih]; rfl
def isDigit (c : UInt8) : Bool := 48 ≤ c && c ≤ 57
def isLetter (c : UInt8) : Bool := 65 ≤ c && c ≤ 90 || 97 ≤ c && c ≤ 122
def isMark (c : UInt8) : Bool := c == 45 || c == 46 || c == 95 || c == 126
def numMay (s : Str) : Bool := s.all isDigit && (s.length == 1 || decide (1 < s.length) && s.head? != some 48)
def numCmp (a b : Str) : Int := or3 (cmpN a.length b.length) (cmpS a b)
theorem numCmp_total : TotalOn Any numCmp := cmpN_total.lex cmpS_total List.length id (fun _ _ => trivial) (fun _ _ => trivial) fun x y _ _ _ h => h
def wordMay (s : Str) : Bool := s != [] && s.all (fun c => isDigit c || isLetter c || c == 45) && (numMay s || !s.all isDigit)
def wordCmp (a b : Str) : Int := if numMay a then (if numMay b then numCmp a b else -1) else (if numMay b then 1 else cmpS a b)
theorem wordCmp_total : TotalOn Any wordCmp where
  self a := by unfold wordCmp; cases h : numMay a <;> simp [numCmp_total.self, cmpS_total.self]
  anti a b := by
    unfold wordCmp
    cases numMay a <;> cases numMay b <;> simp [numCmp_total.anti a b, cmpS_total.anti a b]
  eq0 a b _ _ h := by
    unfold wordCmp at h
    cases ha : numMay a <;> cases hb : numMay b <;> simp [ha, hb] at h
    · exact cmpS_total.eq0 _ _ trivial trivial h
    · exact numCmp_total.eq0 _ _ trivial trivial h
  trans a b d _ _ _ h1 h2 := by
    unfold wordCmp at *
    cases ha : numMay a <;> cases hb : numMay b <;> cases hd : numMay d <;> simp [ha, hb, hd] at *
    · exact cmpS_total.trans _ _ _ trivial trivial trivial h1 h2
    · exact numCmp_total.trans _ _ _ trivial trivial trivial h1 h2
structure Ver where
  major : Str
  minor : Str
  patch : Str
  pre : List Str
def verSplit (s : Str) : Option Ver :=
  match s with
  | 118 :: r =>
    match parts 46 (r.takeWhile (· != 45)) with
    | [a, b, c] =>
      if numMay a && numMay b && numMay c then
        match r.dropWhile (· != 45) with
        | [] => some ⟨a, b, c, []⟩
        | _ :: q => if (parts 46 q).all wordMay then some ⟨a, b, c, parts 46 q⟩ else none
      else none
    | _ => none
  | _ => none
def verMay (s : Str) : Bool := (verSplit s).isSome
def verOf (s : Str) : Ver := (verSplit s).getD ⟨[], [], [], []⟩
def verText (v : Ver) : Str := 118 :: (joinS 46 [v.major, v.minor, v.patch] ++ if v.pre = [] then [] else 45 :: joinS 46 v.pre)
theorem verText_split {s : Str} {v : Ver} (h : verSplit s = some v) : verText v = s := by
  unfold verSplit at h
  split at h
  · rename_i r
    split at h
    · rename_i a b c e
      split at h
      · have hr : r.takeWhile (· != 45) ++ r.dropWhile (· != 45) = r := List.takeWhile_append_dropWhile
        have hj := join_parts 46 (r.takeWhile (· != 45))
        rw [e] at hj
        split at h
        · rename_i e2
          injection h with h
          subst h
          rw [e2] at hr
          simp only [verText, hj, if_true, List.append_nil] at *
          rw [hr]
        · rename_i x q e2
          split at h
          · injection h with h
            subst h
            have hx : x = 45 := by
              have := List.head?_dropWhile_not (fun x : UInt8 => x != 45) r
              rw [e2] at this
              simpa using this
            subst hx
            simp only [verText, hj, if_neg (parts_ne 46 q), join_parts]
            rw [e2] at hr
            rw [hr]
          · simp at h
      · simp at h
    · simp at h
  · simp at h
theorem verSplit_inj {s t : Str} {v : Ver} (hs : verSplit s = some v) (ht : verSplit t = some v) : s = t := by
  rw [← verText_split hs, ← verText_split ht]
def preCmp (a b : List Str) : Int := if a = [] then (if b = [] then 0 else 1) else if b = [] then -1 else cmpLs wordCmp a b
theorem preCmp_total : TotalOn Any preCmp where
  self a := by
    by_cases ha : a = []
    · simp [preCmp, ha]
    · simp [preCmp, ha, (cmpLs_total wordCmp_total).self]
  anti a b := by
    have h := (cmpLs_total wordCmp_total).anti a b
    by_cases ha : a = [] <;> by_cases hb : b = [] <;> simp [preCmp, ha, hb]
    exact h
  eq0 a b _ _ h := by
    by_cases ha : a = [] <;> by_cases hb : b = [] <;> simp [preCmp, ha, hb] at h ⊢
    exact (cmpLs_total wordCmp_total).eq0 _ _ (fun _ _ => trivial) (fun _ _ => trivial) h
  trans a b d _ _ _ h1 h2 := by
    by_cases ha : a = [] <;> by_cases hb : b = [] <;> by_cases hd : d = [] <;> simp [preCmp, ha, hb, hd] at h1 h2 ⊢
    exact (cmpLs_total wordCmp_total).trans _ _ _ (fun _ _ => trivial) (fun _ _ => trivial) (fun _ _ => trivial) h1 h2
def verCmp' (v w : Ver) : Int := or3 (numCmp v.major w.major) (or3 (numCmp v.minor w.minor) (or3 (numCmp v.patch w.patch) (preCmp v.pre w.pre)))
theorem verCmp'_total : TotalOn Any verCmp' := by
  have h3 : TotalOn Any fun v w : Str × List Str => or3 (numCmp v.1 w.1) (preCmp v.2 w.2) := numCmp_total.lex preCmp_total Prod.fst Prod.snd (fun _ _ => trivial) (fun _ _ => trivial) fun x y _ _ h1 h2 => Prod.ext h1 h2
  have h2 : TotalOn Any fun v w : Str × Str × List Str => or3 (numCmp v.1 w.1) (or3 (numCmp v.2.1 w.2.1) (preCmp v.2.2 w.2.2)) := numCmp_total.lex h3 Prod.fst Prod.snd (fun _ _ => trivial) (fun _ _ => trivial) fun x y _ _ h1 h2 => Prod.ext h1 h2
  have h1 : TotalOn Any fun v w : Str × Str × Str × List Str => or3 (numCmp v.1 w.1) (or3 (numCmp v.2.1 w.2.1) (or3 (numCmp v.2.2.1 w.2.2.1) (preCmp v.2.2.2 w.2.2.2))) := numCmp_total.lex h2 Prod.fst Prod.snd (fun _ _ => trivial) (fun _ _ => trivial) fun x y _ _ h1 h2 => Prod.ext h1 h2
  exact h1.comap (fun v : Ver => (v.major, v.minor, v.patch, v.pre)) (fun _ _ => trivial) fun x y _ _ h => by cases x; cases y; simp_all
def verCmp (s t : Str) : Int := verCmp' (verOf s) (verOf t)
theorem verCmp_total : TotalOn (fun s => verMay s = true) verCmp := verCmp'_total.comap verOf (fun _ _ => trivial) fun x y hx hy h => by
  unfold verMay at hx hy
  obtain ⟨v, hv⟩ := Option.isSome_iff_exists.1 hx
  obtain ⟨w, hw⟩ := Option.isSome_iff_exists.1 hy
  simp only [verOf, hv, hw, Option.getD_some] at h
  subst h
  exact verSplit_inj hv hw
def elemMay (s : Str) : Bool := s != [] && s.head? != some 46 && s.getLast? != some 46 && s.all fun c => isDigit c || isLetter c || isMark c
def pathMay (p : Str) : Bool := (parts 47 p).all elemMay
abbrev Nd := Str × Str
def ndMay (n : Nd) : Bool := pathMay n.1 && verMay n.2
def ndCmp (a b : Nd) : Int := or3 (cmpS a.1 b.1) (verCmp a.2 b.2)
theorem ndCmp_total : TotalOn (fun n => ndMay n = true) ndCmp :=
  cmpS_total.lex verCmp_total Prod.fst Prod.snd (fun _ _ => trivial) (fun x h => by simp [ndMay] at h; exact h.2) fun x y _ _ h1 h2 => Prod.ext h1 h2
end Gw
end
section
namespace Go.Proofs.YtjfcmkddeglghaaGreatDoor.G
open Go.RowKit Gw Go.Proofs.YtjfcmkddeglghaaGreatDoorW.PrintWords Go.Proofs.YtjfcmkddeglghaaGreatDoorW.PrintLast
set_option linter.unusedVariables false
set_option linter.unusedSimpArgs false
abbrev ofL (l : Str) : ByteArray := ⟨l.toArray⟩
theorem ofL_self (s : ByteArray) : ofL s.data.toList = s := by obtain ⟨⟨l⟩⟩ := s; rfl
theorem ext_data {s t : ByteArray} (h : s.data.toList = t.data.toList) : s = t := by rw [← ofL_self s, ← ofL_self t, h]
theorem ofL_inj {a b : Str} (h : ofL a = ofL b) : a = b := by have := congrArg (fun s : ByteArray => s.data.toList) h; exact this
theorem size_ofL (l : Str) : (ofL l).size = l.length := rfl
theorem size_data (s : ByteArray) : s.size = s.data.toList.length := Lib.size_eq s
theorem toList_data (s : ByteArray) : s.toList = s.data.toList := ByteArray.toList_eq s
theorem extract_ofL (l : Str) (a b : Nat) : (ofL l).extract a b = ofL ((l.drop a).take (b - a)) := ext_data (by rw [Lib.extract_data])
theorem bt_ofL (c : UInt8) (l : Str) : bt (ofL (c :: l)) 0 = (c.toNat : Int) := rfl
theorem w64 {x : Int} (h0 : -9223372036854775808 ≤ x) (h1 : x ≤ 9223372036854775807) : wrap64 x = x := by unfold wrap64; omega
theorem index_split (c : UInt8) : ∀ l : Str, c ∈ l → Lib.indexByte l c = ((l.takeWhile (· != c)).length : Int) ∧ l = l.takeWhile (· != c) ++ c :: (l.dropWhile (· != c)).tail ∧ (l.dropWhile (· != c)) = c :: (l.dropWhile (· != c)).tail := by
  intro l
  induction l with
  | nil => intro h; simp at h
  | cons b l ih =>
    intro h
    by_cases hb : b = c
    · subst hb; simp [Lib.indexByte]
    · have hb' : (b == c) = false := by simpa using hb
      have hb2 : (b != c) = true := by simpa using hb
      have hm : c ∈ l := by
        rcases List.mem_cons.1 h with h | h
        · exact absurd h.symm hb
        · exact h
      obtain ⟨h1, h2, h3⟩ := ih hm
      have et : List.takeWhile (fun x => x != c) (b :: l) = b :: List.takeWhile (fun x => x != c) l := List.takeWhile_cons_of_pos (p := fun x => x != c) hb2
      have ed : List.dropWhile (fun x => x != c) (b :: l) = List.dropWhile (fun x => x != c) l := List.dropWhile_cons_of_pos (p := fun x => x != c) hb2
      rw [et, ed]
      refine ⟨?_, ?_, h3⟩
      · unfold Lib.indexByte
        rw [hb', h1]
        simp only [Bool.false_eq_true, if_false]
        have : ((((l.takeWhile (· != c)).length : Int)) == -1) = false := by rw [beq_eq_false_iff_ne]; omega
        rw [this]
        simp
      · rw [List.cons_append, ← h2]
theorem index_none (c : UInt8) : ∀ l : Str, ¬ c ∈ l → Lib.indexByte l c = -1 ∧ l.takeWhile (· != c) = l ∧ l.dropWhile (· != c) = [] := by
  intro l
  induction l with
  | nil => intro _; exact ⟨rfl, rfl, rfl⟩
  | cons b l ih =>
    intro h
    have hb : ¬ b = c := fun e => h (by rw [e]; simp)
    have hb' : (b == c) = false := by simpa using hb
    have hb2 : (b != c) = true := by simpa using hb
    obtain ⟨h1, h2, h3⟩ := ih fun hm => h (by simp [hm])
    have et : List.takeWhile (fun x => x != c) (b :: l) = b :: List.takeWhile (fun x => x != c) l := List.takeWhile_cons_of_pos (p := fun x => x != c) hb2
    have ed : List.dropWhile (fun x => x != c) (b :: l) = List.dropWhile (fun x => x != c) l := List.dropWhile_cons_of_pos (p := fun x => x != c) hb2
    rw [et, ed]
    refine ⟨?_, by rw [h2], h3⟩
    unfold Lib.indexByte
    rw [hb', h1]; rfl
theorem parts_none (c : UInt8) : ∀ l : Str, ¬ c ∈ l → parts c l = [l] := by
  intro l
  induction l with
  | nil => intro _; rfl
  | cons b l ih =>
    intro h
    have hb : ¬ b = c := fun e => h (by rw [e]; simp)
    simp only [parts, if_neg hb, ih fun hm => h (by simp [hm])]
theorem parts_at (c : UInt8) : ∀ (p q : Str), ¬ c ∈ p → parts c (p ++ c :: q) = p :: parts c q := by
  intro p
  induction p with
  | nil => intro q _; simp [parts]
  | cons b p ih =>
    intro q h
    have hb : ¬ b = c := fun e => h (by rw [e]; simp)
    simp only [List.cons_append, parts, if_neg hb, ih q fun hm => h (by simp [hm])]
theorem not_mem_take (c : UInt8) (l : Str) : ¬ c ∈ l.takeWhile (· != c) := by
  intro h
  have := List.all_takeWhile (p := fun x : UInt8 => x != c) (l := l)
  rw [List.all_eq_true] at this
  simpa using this c h
theorem splitB_parts (c : UInt8) : ∀ (k : Nat) (l : Str), l.count c = k → Lib.splitB (ofL [c]) 0 k (ofL l) = (parts c l).map ofL := by
  intro k
  induction k with
  | zero =>
    intro l h
    rw [parts_none c l (List.count_eq_zero.1 h)]
    rfl
  | succ k ih =>
    intro l h
    have hm : c ∈ l := List.count_pos_iff.1 (by omega)
    obtain ⟨h1, h2, h3⟩ := index_split c l hm
    have hi : Lib.indexB (ofL l) (ofL [c]) = (((l.takeWhile (· != c)).length : Nat) : Int) := by
      show Lib.index l [c] = _
      rw [Lib.index_one, h1]
    rw [Lib.splitB_hit _ _ _ _ _ hi]
    have hn := not_mem_take c l
    generalize l.takeWhile (· != c) = p at *
    generalize (l.dropWhile (· != c)).tail = q at *
    have hq : q.count c = k := by
      rw [h2, List.count_append, List.count_cons_self, List.count_eq_zero.2 hn] at h
      omega
    have e1 : (ofL [c]).size = 1 := rfl
    have e2 : (ofL l).size = l.length := rfl
    rw [e1, e2, extract_ofL, extract_ofL]
    have e5 : (l.drop 0).take (p.length + 0 - 0) = p := by rw [h2]; simp
    have e6 : (l.drop (p.length + 1)).take (l.length - (p.length + 1)) = q := by
      rw [h2]
      simp
      exact List.take_of_length_le (by omega)
    rw [e5, e6, ih q hq]
    conv => rhs; rw [h2]
    rw [parts_at c p q hn]
    rfl
theorem parts_length (c : UInt8) : ∀ l : Str, (parts c l).length = l.count c + 1 := by
  intro l
  have h := splitB_parts c _ l rfl
  have h2 := Lib.splitB_all (ofL [c]) (Nat.le_refl 1) 0 (l.count c) (ofL l) (Lib.count_one c l)
  rw [h, List.length_map] at h2
  exact h2
end Go.Proofs.YtjfcmkddeglghaaGreatDoor.G
end
section
namespace Go.Proofs.YtjfcmkddeglghaaGreatDoor.G
open Go.RowKit Go.Proofs.YtjfcmkddeglghaaGreatDoorW.PrintWords Go.Proofs.YtjfcmkddeglghaaGreatDoorW.PrintLast
set_option linter.unusedVariables false
set_option linter.unusedSimpArgs false
def stringslite_IndexByte.f (a0 : ByteArray) (a1 : Int) : Option Int := some (Lib.indexByte a0.data.toList a1.toNat.toUInt8)
set_option maxHeartbeats 1000000 in
set_option maxRecDepth 100000 in
theorem stringslite_IndexByte.exact (a0 : ByteArray) (a1 : Int) (r : Int) (w : World) (h : stringslite_IndexByte.f a0 a1 = some r) :
    Calls Tryz.prog 210 #[.string a0, .int .u8 a1] w fun e w' => e = .returned (.int .i64 r) ∧ w' = w := by
  unfold stringslite_IndexByte.f at h
  obtain rfl := Option.some.inj h
  clear h
  go_enter Tryz.func210, Tryz.ntmps210
  go_wp2
  rw [run_callFunc_extern Tryz.func221 (by kernel_rfl) (by kernel_rfl) (by kernel_rfl) (e := Extern.BytealgIndexByte.indexByte) (by kernel_rfl), Lib.run_indexByteString]
  simp only [Result.andThen]
  rw [Oper.upon_value]
  go_wp2
  go_ret
  exact ⟨rfl, rfl⟩
def stringslite_Index.f (a0 a1 : ByteArray) : Option Int := if a1.size = 1 ∧ a0.size ≤ 9223372036854775807 then some (Lib.indexByte a0.data.toList (bt a1 0).toNat.toUInt8) else none
set_option maxHeartbeats 1000000 in
set_option maxRecDepth 100000 in
theorem stringslite_Index.exact (a0 a1 : ByteArray) (r : Int) (w : World) (h : stringslite_Index.f a0 a1 = some r) :
    Calls Tryz.prog 203 #[.string a0, .string a1] w fun e w' => e = .returned (.int .i64 r) ∧ w' = w := by
  unfold stringslite_Index.f at h
  split at h
  · rename_i hc
    obtain ⟨h1, h2⟩ := hc
    obtain rfl := Option.some.inj h
    clear h
    obtain ⟨l⟩ := a1
    obtain ⟨l⟩ := l
    obtain ⟨c, rfl⟩ : ∃ c, l = [c] := by
      have : l.length = 1 := h1
      match l, this with
      | [c], _ => exact ⟨c, rfl⟩
    clear h1
    have hb : bt (⟨⟨[c]⟩⟩ : ByteArray) 0 = (c.toNat : Int) := rfl
    rw [hb]
    clear hb
    go_enter Tryz.func203, Tryz.ntmps203
    go_wp2_with (go_at_call 210; refine (stringslite_IndexByte.exact _ _ _ _ rfl).mono ?_; rintro e w' ⟨rfl, hw⟩; subst hw)
    · rename_i hs
      have hs : a0.data.toList = [c] := by
        rw [← ByteArray.toList_eq]; exact (beq_iff_eq.1 hs).symm
      go_ret
      exact ⟨by simp [hs, Lib.indexByte], rfl⟩
    · go_ret
      exact ⟨(show Ending.returned (.int .i64 (Lib.indexByte a0.data.toList c)) = Ending.returned (.int .i64 (Lib.indexByte a0.data.toList (c.toNat : Int).toNat.toUInt8)) by simp), rfl⟩
  · cases h
theorem stringslite_Index.calls (a0 a1 : ByteArray) (r : Int) (w : World) (h : stringslite_Index.f a0 a1 = some r) :
    Calls Tryz.prog 203 #[.string a0, .string a1] w fun e w' => e = .returned (.int .i64 r) ∧ Drawn0 w w' :=
  (stringslite_Index.exact a0 a1 r w h).mono fun e w' hh => ⟨hh.1, hh.2 ▸ Drawn0.refl _⟩
def strings_Count.f (a0 a1 : ByteArray) : Option Int := if a1.size = 1 then some ((Lib.countByte a0.data.toList (bt a1 0).toNat.toUInt8 : Nat) : Int) else none
set_option maxHeartbeats 1000000 in
set_option maxRecDepth 100000 in
theorem strings_Count.exact (a0 a1 : ByteArray) (r : Int) (w : World) (h : strings_Count.f a0 a1 = some r) :
    Calls Tryz.prog 208 #[.string a0, .string a1] w fun e w' => e = .returned (.int .i64 r) ∧ w' = w := by
  unfold strings_Count.f at h
  split at h
  · rename_i h1
    obtain rfl := Option.some.inj h
    clear h
    obtain ⟨l⟩ := a1
    obtain ⟨l⟩ := l
    obtain ⟨c, rfl⟩ : ∃ c, l = [c] := by
      have : l.length = 1 := h1
      match l, this with
      | [c], _ => exact ⟨c, rfl⟩
    clear h1
    have hb : bt (⟨⟨[c]⟩⟩ : ByteArray) 0 = (c.toNat : Int) := rfl
    rw [hb]
    clear hb
    go_enter Tryz.func208, Tryz.ntmps208
    go_wp2
    rw [run_callFunc_extern Tryz.func220 (by kernel_rfl) (by kernel_rfl) (by kernel_rfl) (e := Extern.BytealgCount.count) (by kernel_rfl), Lib.run_countString]
    simp only [Result.andThen]
    rw [Oper.upon_value]
    go_wp2
    go_ret
    exact ⟨(show Ending.returned (.int .i64 ((Lib.countByte a0.data.toList c : Nat) : Int)) = Ending.returned (.int .i64 ((Lib.countByte a0.data.toList (c.toNat : Int).toNat.toUInt8 : Nat) : Int)) by simp), rfl⟩
  · cases h
end Go.Proofs.YtjfcmkddeglghaaGreatDoor.G
end
section
namespace Go.Proofs
open Go.Shelf
def Tryz.lays153_ren : Go.Shelf.Ren := ⟨fun | 153 => 205 | 152 => 214 | 226 => 215 | 227 => 216 | 228 => 217 | 137 => 223 | 119 => 224 | 224 => 212 | 225 => 211 | 217 => 210 | 266 => 221 | n => n, fun | 9 => 9 | 3 => 3 | 4 => 4 | 5 => 5 | 21 => 21 | 117 => 231 | 116 => 230 | 0 => 0 | 46 => 142 | 124 => 240 | n => n, fun | n => n⟩
theorem Tryz.lays153 : Go.Proofs.Lays.n153 Tryz.prog Tryz.lays153_ren := {
  mixed := by kernel_rfl
  f119 := Tryz.func224.trans (congrArg some (by kernel_rfl))
  f137 := Tryz.func223.trans (congrArg some (by kernel_rfl))
  f152 := Tryz.func214.trans (congrArg some (by kernel_rfl))
  f153 := Tryz.func205.trans (congrArg some (by kernel_rfl))
  f217 := Tryz.func210.trans (congrArg some (by kernel_rfl))
  f224 := Tryz.func212.trans (congrArg some (by kernel_rfl))
  f225 := Tryz.func211.trans (congrArg some (by kernel_rfl))
  f226 := Tryz.func215.trans (congrArg some (by kernel_rfl))
  f227 := Tryz.func216.trans (congrArg some (by kernel_rfl))
  f228 := Tryz.func217.trans (congrArg some (by kernel_rfl))
  f266 := Tryz.func221.trans (congrArg some (by kernel_rfl))
  t0 := Tryz.underlying0
  a0 := Tryz.isAgg0
  z0 := Tryz.sizeOf0
  v0 := Tryz.zeroValue0
  t3 := Tryz.underlying3
  a3 := Tryz.isAgg3
  z3 := Tryz.sizeOf3
  v3 := Tryz.zeroValue3
  t4 := Tryz.underlying4
  a4 := Tryz.isAgg4
  z4 := Tryz.sizeOf4
  v4 := Tryz.zeroValue4
  t5 := Tryz.underlying5
  a5 := Tryz.isAgg5
  z5 := Tryz.sizeOf5
  v5 := Tryz.zeroValue5
  t9 := Tryz.underlying9
  a9 := Tryz.isAgg9
  z9 := Tryz.sizeOf9
  v9 := Tryz.zeroValue9
  t21 := Tryz.underlying21
  a21 := Tryz.isAgg21
  z21 := Tryz.sizeOf21
  v21 := Tryz.zeroValue21
  t46 := Tryz.underlying142
  a46 := Tryz.isAgg142
  z46 := Tryz.sizeOf142
  v46 := Tryz.zeroValue142
  t116 := Tryz.underlying230
  a116 := Tryz.isAgg230
  z116 := Tryz.sizeOf230
  t117 := Tryz.underlying231
  a117 := Tryz.isAgg231
  z117 := Tryz.sizeOf231
  v117 := Tryz.zeroValue231
  t124 := Tryz.underlying240
  a124 := Tryz.isAgg240
  z124 := Tryz.sizeOf240
  v124 := Tryz.zeroValue240 }
def Tryz.lays221_ren : Go.Shelf.Ren := ⟨fun | 221 => 201 | 268 => 207 | 138 => 208 | 143 => 209 | 195 => 218 | 197 => 219 | 218 => 220 | 219 => 203 | 260 => 225 | 217 => 210 | 225 => 211 | 224 => 212 | 267 => 213 | 266 => 221 | 314 => 222 | n => n, fun | 9 => 9 | 3 => 3 | 31 => 122 | 4 => 4 | 0 => 0 | 105 => 235 | 21 => 21 | 5 => 5 | 46 => 142 | 119 => 241 | 139 => 244 | 138 => 243 | 146 => 237 | 51 => 179 | n => n, fun | 1 => 0 | 3 => 1 | 4 => 2 | n => n⟩
theorem Tryz.lays221 : Go.Proofs.Lays.n221 Tryz.prog Tryz.lays221_ren := {
  mixed := by kernel_rfl
  f138 := Tryz.func208.trans (congrArg some (by kernel_rfl))
  f143 := Tryz.func209.trans (congrArg some (by kernel_rfl))
  f195 := Tryz.func218.trans (congrArg some (by kernel_rfl))
  f197 := Tryz.func219.trans (congrArg some (by kernel_rfl))
  f217 := Tryz.func210.trans (congrArg some (by kernel_rfl))
  f218 := Tryz.func220.trans (congrArg some (by kernel_rfl))
  f219 := Tryz.func203.trans (congrArg some (by kernel_rfl))
  f221 := Tryz.func201.trans (congrArg some (by kernel_rfl))
  f224 := Tryz.func212.trans (congrArg some (by kernel_rfl))
  f225 := Tryz.func211.trans (congrArg some (by kernel_rfl))
  f260 := Tryz.func225.trans (congrArg some (by kernel_rfl))
  f266 := Tryz.func221.trans (congrArg some (by kernel_rfl))
  f267 := Tryz.func213.trans (congrArg some (by kernel_rfl))
  f268 := Tryz.func207.trans (congrArg some (by kernel_rfl))
  f314 := Tryz.func222.trans (congrArg some (by kernel_rfl))
  t0 := Tryz.underlying0
  a0 := Tryz.isAgg0
  z0 := Tryz.sizeOf0
  v0 := Tryz.zeroValue0
  t3 := Tryz.underlying3
  a3 := Tryz.isAgg3
  z3 := Tryz.sizeOf3
  v3 := Tryz.zeroValue3
  t4 := Tryz.underlying4
  a4 := Tryz.isAgg4
  z4 := Tryz.sizeOf4
  v4 := Tryz.zeroValue4
  t5 := Tryz.underlying5
  a5 := Tryz.isAgg5
  z5 := Tryz.sizeOf5
  v5 := Tryz.zeroValue5
  t9 := Tryz.underlying9
  a9 := Tryz.isAgg9
  z9 := Tryz.sizeOf9
  v9 := Tryz.zeroValue9
  t21 := Tryz.underlying21
  a21 := Tryz.isAgg21
  z21 := Tryz.sizeOf21
  v21 := Tryz.zeroValue21
  t31 := Tryz.underlying122
  a31 := Tryz.isAgg122
  z31 := Tryz.sizeOf122
  v31 := Tryz.zeroValue122
  t46 := Tryz.underlying142
  a46 := Tryz.isAgg142
  z46 := Tryz.sizeOf142
  v46 := Tryz.zeroValue142
  t51 := Tryz.underlying179
  a51 := Tryz.isAgg179
  z51 := Tryz.sizeOf179
  v51 := Tryz.zeroValue179
  t105 := Tryz.underlying235
  a105 := Tryz.isAgg235
  z105 := Tryz.sizeOf235
  v105 := Tryz.zeroValue235
  t119 := Tryz.underlying241
  a119 := Tryz.isAgg241
  z119 := Tryz.sizeOf241
  t138 := Tryz.underlying243
  a138 := Tryz.isAgg243
  z138 := Tryz.sizeOf243
  v138 := Tryz.zeroValue243
  t139 := Tryz.underlying244
  a139 := Tryz.isAgg244
  z139 := Tryz.sizeOf244
  v139 := Tryz.zeroValue244
  t146 := Tryz.underlying237
  a146 := Tryz.isAgg237
  z146 := Tryz.sizeOf237
  v146 := Tryz.zeroValue237
  g1 := by kernel_rfl
  g3 := by kernel_rfl
  g4 := by kernel_rfl }
end Go.Proofs
end
section
namespace Go.Proofs.YtjfcmkddeglghaaGreatDoor.G
open Go.RowKit Gw Go.Proofs.YtjfcmkddeglghaaGreatDoorW.PrintWords Go.Proofs.YtjfcmkddeglghaaGreatDoorW.PrintLast
set_option linter.unusedVariables false
set_option linter.unusedSimpArgs false
theorem strings_Index.exact (a0 a1 : ByteArray) (r : Int) (w : World) (h : stringslite_Index.f a0 a1 = some r) :
    Calls Tryz.prog 209 #[.string a0, .string a1] w fun e w' => e = .returned (.int .i64 r) ∧ w' = w := by
  go_enter Tryz.func209, Tryz.ntmps209
  go_wp2_with (go_at_call 203; refine (stringslite_Index.exact _ _ _ _ h).mono ?_; rintro e w' ⟨rfl, hw⟩; rw [hw])
  go_ret
  exact ⟨rfl, rfl⟩
theorem strings_genSplit_one (s : ByteArray) (c : UInt8) (w : World) (hs : s.size < 4294967281) :
    Calls Tryz.prog 201 #[.string s, .string (ofL [c]), .int .i64 0, .int .i64 (-1)] w fun e w' =>
      e = .returned (.slice (some ⟨w.heap.size, 0, none⟩) (s.data.toList.count c + 1) (s.data.toList.count c + 1)) ∧ w' = w.alloc (.cells ((Lib.splitB (ofL [c]) 0 (s.data.toList.count c) s).map Value.string).toArray 9) := by
  have h1 : (ofL [c]).size = 1 := rfl
  have hb : bt (ofL [c]) 0 = (c.toNat : Int) := rfl
  have hcn : Lib.countB s (ofL [c]) = s.data.toList.count c := Lib.count_one c _
  have hC : Calls Tryz.prog 208 #[.string s, .string (ofL [c])] w fun e w' => e = .returned (.int .i64 (Lib.countB s (ofL [c]))) ∧ w' = w := by
    rw [hcn]
    refine strings_Count.exact _ _ _ _ ?_
    unfold strings_Count.f
    rw [if_pos h1, hb]
    simp [Lib.countByte]
  have hI : ∀ (x : ByteArray) (cs : Array Value), x.size ≤ s.size → Calls Tryz.prog 209 #[.string x, .string (ofL [c])] (w.alloc (.cells cs 9)) fun e w' => e = .returned (.int .i64 (Lib.indexB x (ofL [c]))) ∧ w' = w.alloc (.cells cs 9) := by
    intro x cs hx
    refine strings_Index.exact _ _ _ _ ?_
    unfold stringslite_Index.f
    rw [if_pos ⟨h1, by omega⟩, hb]
    simp [Lib.indexB, ofL, Lib.index_one]
  have hle : s.data.toList.count c ≤ s.size := by rw [size_data]; exact List.count_le_length
  have hall : (Lib.splitB (ofL [c]) 0 (s.data.toList.count c) s).length = s.data.toList.count c + 1 := Lib.splitB_all (ofL [c]) (Nat.le_refl 1) 0 _ s hcn
  have hg := Any.strings_genSplit_core Tryz.lays221 (by kernel_rfl) s (ofL [c]) 0 (-1) (s.data.toList.count c + 1) w hs (Nat.le_refl 1) (Nat.zero_le _) hI hC (by decide) (by decide) (by rw [if_pos (by decide), hcn]; omega)
  have hfull := Lib.cellsOf_full (Lib.splitB (ofL [c]) 0 (s.data.toList.count c) s)
  rw [hall] at hfull
  rw [Nat.add_sub_cancel, hall, hfull] at hg
  exact hg
theorem Kd.R_strings (xs : List ByteArray) (w : World) (hl : xs.length ≤ 9223372036854775807) :
    Kd.R Kd.string 9 (w.alloc (.cells (xs.map Value.string).toArray 9)) w.heap.size (fun _ => True) (.slice (some ⟨w.heap.size, 0, none⟩) xs.length xs.length) xs := by
  refine ⟨fun _ _ => trivial, xs.map Value.string, ?_, ?_⟩
  · have h2 := World.ownsRow_lit (base := w.heap.size) (e := 9) (size := 1) w (xs.map Value.string).toArray xs.length (Nat.le_refl _) (by simpa [maxLen] using hl) (by simp)
    simp only [List.toList_toArray] at h2
    exact h2
  · refine ⟨by show _ = xs.length * 1; simp, fun j p hj => ?_⟩
    show ((xs.map Value.string).drop (j * 1)).take 1 = [Value.string p]
    rw [Nat.mul_one, ← List.map_drop, ← List.map_take]
    obtain ⟨hlt, hp⟩ := List.getElem?_eq_some_iff.1 hj
    rw [List.drop_eq_getElem_cons hlt, hp]
    simp
def strings_Split.f (a0 a1 : ByteArray) : Option (List ByteArray) := if a1.size = 1 ∧ a0.size < 4294967281 then some ((parts (bt a1 0).toNat.toUInt8 a0.data.toList).map ofL) else none
set_option maxHeartbeats 1000000 in
theorem strings_Split.calls (a0 a1 : ByteArray) (r : List ByteArray) (w : World) (h : strings_Split.f a0 a1 = some r) :
    Calls Tryz.prog 189 #[.string a0, .string a1] w fun e w' => ∃ v0_ : Value, e = .returned v0_ ∧ Kd.R Kd.string 9 w' w.heap.size (fun _ => True) v0_ r ∧ Below w.heap.size w w' := by
  unfold strings_Split.f at h
  split at h
  · rename_i hc
    obtain ⟨h1, h2⟩ := hc
    obtain ⟨c, rfl⟩ := Lib.one_byte a1 h1
    have hb : (bt (⟨#[c]⟩ : ByteArray) 0).toNat.toUInt8 = c := by
      show ((c.toNat : Int)).toNat.toUInt8 = c
      simp
    rw [hb] at h
    obtain rfl := Option.some.inj h
    have hr := Kd.R_strings ((parts c a0.data.toList).map ofL) w (by rw [List.length_map, parts_length]; have := List.count_le_length (a := c) (l := a0.data.toList); rw [size_data] at h2; omega)
    rw [List.length_map, parts_length, ← splitB_parts c _ _ rfl, ofL_self] at hr
    rw [← splitB_parts c _ _ rfl, ofL_self]
    obtain ⟨n, hn⟩ : ∃ n, a0.data.toList.count c = n := ⟨_, rfl⟩
    have hG := strings_genSplit_one a0 c w h2
    rw [hn] at hr hG ⊢
    have HR := Aside0.mk hr
    clear hr h h1 hb hn
    go_enter Tryz.func189, Tryz.ntmps189
    go_wp2_with (first | (go_at_call 201; refine hG.mono ?_; rintro e w' ⟨rfl, hw⟩; rw [hw]))
    go_ret
    exact ⟨_, rfl, HR.out, below_alloc (Below.refl _ _) _⟩
  · cases h
end Go.Proofs.YtjfcmkddeglghaaGreatDoor.G
end
section
namespace Go.Proofs.YtjfcmkddeglghaaGreatDoor.G
open Go.RowKit Go.Proofs.YtjfcmkddeglghaaGreatDoorW.PrintWords Go.Proofs.YtjfcmkddeglghaaGreatDoorW.PrintLast Go.Proofs.YtjfcmkddeglghaaGreatDoorW.PrintMore
attribute [local go_sem] max2_int min2_int max_two min_two max_three min_three max_four min_four
set_option linter.unusedVariables false
set_option linter.unusedSimpArgs false
def octet_Parts.f (a0 : ByteArray) (a1 : Int) : Option (List ByteArray) := (strings_Split.f a0 (strOfNums (([a1] : List Int)))).bind fun t106 => (some t106)
set_option maxHeartbeats 8000000 in
set_option maxRecDepth 100000 in
theorem octet_Parts.calls (a0 : ByteArray) (a1 : Int) (r : List ByteArray) (w : World) (h : octet_Parts.f a0 a1 = some r) :
  Calls Tryz.prog 160 #[.string a0, .int .u8 a1] w fun e w' => ∃ v0_ : Value, e = .returned (v0_) ∧ Kd.R Kd.string 9 w' w.heap.size (fun _ => True) v0_ r ∧ Below w.heap.size w w' := by
 have HB := Aside0.mk (Below.refl w.heap.size w)
 have H : ((strings_Split.f a0 (strOfNums (([a1] : List Int)))).bind fun t106 => (some t106)) = some r := h
 clear h
 obtain ⟨y103, hy103⟩ : ∃ y_ : List Int, y_ = (([a1] : List Int)) := ⟨_, rfl⟩
 replace H : ((strings_Split.f a0 (strOfNums y103)).bind fun t106 => (some t106)) = some r := by first | (rw [hy103]; with_reducible exact H) | (have H2_ := (Option.bind_some _ _).symm.trans H; rw [hy103]; with_reducible exact H2_) | (have H2_ := (Option.bind_some _ _).symm.trans H; with_reducible exact H2_) | with_reducible exact H | (rw [hy103]; exact H) | exact H
 have Ny103 := Aside0.mk hy103
 clear hy103
 obtain ⟨t106, A3, H⟩ := bo H
 obtain rfl := Option.some.inj H
 go_enter Tryz.func160, Tryz.ntmps160
 go_wp2_with (first | ((with_reducible refine gate_dst (N := 7) rfl ?_); refine Kd.R_lit (Kd.int .u8) _ 5 ?hg (N := 7) ?hd (xs := ([a1] : List Int)) (inner := [.int .u8 a1]) (ok := fun _ => True) (okp := fun _ => True) ?hr ?hp (fun _ hk => hk) trivial (Below.refl _ _) (Nat.le_refl _) (by simp) ?_; (case hd => rfl); (case hg => rfl); (case hr => first | (go_simp; done) | (go_simp; rfl)); (case hp => exact (Reps.one (show Kd.M (Kd.int .u8) _ _ _ a1 [.int .u8 a1] from rfl) (Reps.none _ _))); intro v104 w4 ho5 hb hg_ hnew_; clear hg_ hnew_; (first | rw [← Ny103.out] at ho5 | (simp only [Int.reduceToNat] at ho5; rw [← Ny103.out] at ho5)); have n0_ := Aside0.mk (Kd.R_lower ho5 (bz HB)); have n1_ := bs HB hb; revert n0_ n1_; clear HB; intro HO105 HB; clear hb ho5; have hcv6 := own_string (P := Tryz.prog) Tryz.underlying211 Tryz.underlying5 Tryz.underlying9 (Kd.own_of_R HO105.out)) | ((with_reducible refine gate_callee (f := 189) rfl ?_); refine gl 9 Tryz.func189 #[.string a0, .string (strOfNums y103)] ?_; (with_reducible refine (strings_Split.calls a0 (strOfNums y103) t106 _ A3.out).mono ?_); rintro e w7 ⟨v107, rfl, ho0, hb⟩; refine ⟨_, rfl, ?_⟩; have n0_ := rb HO105 hb; have n1_ := Aside0.mk (Kd.R_lower ho0 (bz HB)); have n2_ := bs HB hb; revert n0_ n1_ n2_; clear HO105 HB; intro HO105 HO108 HB; (try clear hb); (try clear ho0)))
 go_ret
 exact ⟨_, by first | rfl | (simp [errW_none, errW_some] <;> rfl) | (simp [*, errW_none, errW_some] <;> rfl), by (with_reducible repeat (first | apply Kd.R_alloc | apply Kd.R_drewN | apply Kd.R_drew)); exact HO108.out, ba HB⟩
end Go.Proofs.YtjfcmkddeglghaaGreatDoor.G
end
section
namespace Go.Proofs.YtjfcmkddeglghaaGreatDoor.G
open Go.RowKit Go.Lib Go.Proofs.YtjfcmkddeglghaaGreatDoorW.PrintWords Go.Proofs.YtjfcmkddeglghaaGreatDoorW.PrintLast
set_option linter.unusedVariables false
set_option linter.unusedSimpArgs false
def octTexts : List (List UInt8) := [[], [48, 49, 50, 51, 52, 53, 54, 55, 56, 57],
  [97, 98, 99, 100, 101, 102, 103, 104, 105, 106, 107, 108, 109, 110, 111, 112, 113, 114, 115, 116, 117, 118, 119, 120, 121, 122, 65, 66, 67, 68, 69, 70, 71, 72, 73, 74, 75, 76, 77, 78, 79, 80, 81, 82, 83, 84, 85, 86, 87, 88, 89, 90],
  [45, 46, 95, 126], [47], [32, 9], [10], [34], [40], [41]]
def octText (i : Nat) : ByteArray := ⟨(octTexts.getD i []).toArray⟩
def octDone (i : Nat) : List (UInt8 × Nat) := ((octTexts.take i).zipIdx.map fun p => p.1.map fun c => (c, p.2)).flatten
def octTab (l : List (UInt8 × Nat)) : Array Value := l.foldl (fun c p => c.setIfInBounds p.1.toNat (.int .i64 (p.2 : Nat))) (Array.replicate 256 (.int .i64 0))
theorem octTab_snoc (l : List (UInt8 × Nat)) (c : UInt8) (k : Nat) : octTab (l ++ [(c, k)]) = (octTab l).setIfInBounds c.toNat (.int .i64 (k : Nat)) := by
  unfold octTab; rw [List.foldl_append]; rfl
def OctGood (c : Array Value) : Prop := c.size = 256 ∧ ∀ i, i < 256 → ∃ n : Int, c[i]? = some (.int .i64 n)
theorem OctGood.set {c : Array Value} (h : OctGood c) (j : Nat) (n : Int) : OctGood (c.setIfInBounds j (.int .i64 n)) := by
  refine ⟨by rw [Array.size_setIfInBounds]; exact h.1, fun i hi => ?_⟩
  rw [Array.getElem?_setIfInBounds]
  split
  · rename_i e; subst e; exact ⟨_, by rw [if_pos (by rw [h.1]; exact hi)]⟩
  · exact h.2 i hi
theorem octGood_fold (l : List (UInt8 × Nat)) : ∀ c : Array Value, OctGood c → OctGood (l.foldl (fun c p => c.setIfInBounds p.1.toNat (.int .i64 (p.2 : Nat))) c) := by
  induction l with
  | nil => intro c h; exact h
  | cons p l ih => intro c h; exact ih _ (h.set _ _)
theorem octTab_good (l : List (UInt8 × Nat)) : OctGood (octTab l) := octGood_fold l _ ⟨by simp, fun i hi => ⟨0, by simp [hi]⟩⟩
theorem octTab_size (l : List (UInt8 × Nat)) : (octTab l).size = 256 := (octTab_good l).1
theorem octTab_ints (l : List (UInt8 × Nat)) : ∀ i, i < 256 → ∃ n : Int, (octTab l)[i]? = some (.int .i64 n) := (octTab_good l).2
theorem octTab_one (l : List (UInt8 × Nat)) : (octTab l).all (·.oneCell') = true := by
  rw [Array.all_eq_true]
  intro i hi
  obtain ⟨n, hn⟩ := octTab_ints l i (by rw [octTab_size] at hi; exact hi)
  rw [Array.getElem?_eq_getElem hi] at hn
  rw [Option.some.inj hn]; rfl
def octClass (c : UInt8) : Nat := if 48 ≤ c && c ≤ 57 then 1 else if 65 ≤ c && c ≤ 90 || 97 ≤ c && c ≤ 122 then 2 else if c == 45 || c == 46 || c == 95 || c == 126 then 3
  else if c == 47 then 4 else if c == 32 || c == 9 then 5 else if c == 10 then 6 else if c == 34 then 7 else if c == 40 then 8 else if c == 41 then 9 else 0
theorem octClass_lt (c : UInt8) : octClass c < 10 := by
  unfold octClass
  repeat' split
  all_goals omega
def octNum : Option Value → Int
  | some (.int .i64 k) => k
  | _ => -1
set_option maxRecDepth 100000 in
theorem octTab_all : (List.range 256).all (fun n => octNum ((octTab (octDone 10))[n]?) == (octClass n.toUInt8 : Int)) = true := by kernel_rfl
theorem octTab_at (c : UInt8) : (octTab (octDone 10))[c.toNat]? = some (.int .i64 (octClass c : Nat)) := by
  have h2 : octNum ((octTab (octDone 10))[c.toNat]?) = (octClass c.toNat.toUInt8 : Int) := by
    have := List.all_eq_true.1 octTab_all c.toNat (List.mem_range.2 (UInt8.toNat_lt c))
    simpa only [beq_iff_eq] using this
  obtain ⟨n, hn⟩ := octTab_ints (octDone 10) c.toNat (UInt8.toNat_lt c)
  rw [hn] at h2 ⊢
  have h3 : n = (octClass c.toNat.toUInt8 : Int) := h2
  rw [h3]
  have h4 : c.toNat.toUInt8 = c := by simp
  rw [h4]
set_option maxRecDepth 100000 in
theorem octArr_index (i : Nat) (hi : i < 10) (w : World) : (Instr.index 227 (.agg #[.string ⟨#[]⟩, .string ⟨#[48, 49, 50, 51, 52, 53, 54, 55, 56, 57]⟩, .string ⟨#[97, 98, 99, 100, 101, 102, 103, 104, 105, 106, 107, 108, 109, 110, 111, 112, 113, 114, 115, 116, 117, 118, 119, 120, 121, 122, 65, 66, 67, 68, 69, 70, 71, 72, 73, 74, 75, 76, 77, 78, 79, 80, 81, 82, 83, 84, 85, 86, 87, 88, 89, 90]⟩, .string ⟨#[45, 46, 95, 126]⟩, .string ⟨#[47]⟩, .string ⟨#[32, 9]⟩, .string ⟨#[10]⟩, .string ⟨#[34]⟩, .string ⟨#[40]⟩, .string ⟨#[41]⟩]) (.int .i64 (i : Int))).run Tryz.prog w = .ok (.string (octText i)) w := by
  have hall : ∀ j : Fin 10, (Instr.index 227 (.agg #[.string ⟨#[]⟩, .string ⟨#[48, 49, 50, 51, 52, 53, 54, 55, 56, 57]⟩, .string ⟨#[97, 98, 99, 100, 101, 102, 103, 104, 105, 106, 107, 108, 109, 110, 111, 112, 113, 114, 115, 116, 117, 118, 119, 120, 121, 122, 65, 66, 67, 68, 69, 70, 71, 72, 73, 74, 75, 76, 77, 78, 79, 80, 81, 82, 83, 84, 85, 86, 87, 88, 89, 90]⟩, .string ⟨#[45, 46, 95, 126]⟩, .string ⟨#[47]⟩, .string ⟨#[32, 9]⟩, .string ⟨#[10]⟩, .string ⟨#[34]⟩, .string ⟨#[40]⟩, .string ⟨#[41]⟩]) (.int .i64 ((j.val : Nat) : Int))).run Tryz.prog w = .ok (.string (octText j.val)) w := by
    intro j
    match j with
    | ⟨0, _⟩ => exact (by kernel_rfl : (Instr.index 227 (.agg #[.string ⟨#[]⟩, .string ⟨#[48, 49, 50, 51, 52, 53, 54, 55, 56, 57]⟩, .string ⟨#[97, 98, 99, 100, 101, 102, 103, 104, 105, 106, 107, 108, 109, 110, 111, 112, 113, 114, 115, 116, 117, 118, 119, 120, 121, 122, 65, 66, 67, 68, 69, 70, 71, 72, 73, 74, 75, 76, 77, 78, 79, 80, 81, 82, 83, 84, 85, 86, 87, 88, 89, 90]⟩, .string ⟨#[45, 46, 95, 126]⟩, .string ⟨#[47]⟩, .string ⟨#[32, 9]⟩, .string ⟨#[10]⟩, .string ⟨#[34]⟩, .string ⟨#[40]⟩, .string ⟨#[41]⟩]) (.int .i64 0)).run Tryz.prog w = .ok (.string (octText 0)) w)
    | ⟨1, _⟩ => exact (by kernel_rfl : (Instr.index 227 (.agg #[.string ⟨#[]⟩, .string ⟨#[48, 49, 50, 51, 52, 53, 54, 55, 56, 57]⟩, .string ⟨#[97, 98, 99, 100, 101, 102, 103, 104, 105, 106, 107, 108, 109, 110, 111, 112, 113, 114, 115, 116, 117, 118, 119, 120, 121, 122, 65, 66, 67, 68, 69, 70, 71, 72, 73, 74, 75, 76, 77, 78, 79, 80, 81, 82, 83, 84, 85, 86, 87, 88, 89, 90]⟩, .string ⟨#[45, 46, 95, 126]⟩, .string ⟨#[47]⟩, .string ⟨#[32, 9]⟩, .string ⟨#[10]⟩, .string ⟨#[34]⟩, .string ⟨#[40]⟩, .string ⟨#[41]⟩]) (.int .i64 1)).run Tryz.prog w = .ok (.string (octText 1)) w)
    | ⟨2, _⟩ => exact (by kernel_rfl : (Instr.index 227 (.agg #[.string ⟨#[]⟩, .string ⟨#[48, 49, 50, 51, 52, 53, 54, 55, 56, 57]⟩, .string ⟨#[97, 98, 99, 100, 101, 102, 103, 104, 105, 106, 107, 108, 109, 110, 111, 112, 113, 114, 115, 116, 117, 118, 119, 120, 121, 122, 65, 66, 67, 68, 69, 70, 71, 72, 73, 74, 75, 76, 77, 78, 79, 80, 81, 82, 83, 84, 85, 86, 87, 88, 89, 90]⟩, .string ⟨#[45, 46, 95, 126]⟩, .string ⟨#[47]⟩, .string ⟨#[32, 9]⟩, .string ⟨#[10]⟩, .string ⟨#[34]⟩, .string ⟨#[40]⟩, .string ⟨#[41]⟩]) (.int .i64 2)).run Tryz.prog w = .ok (.string (octText 2)) w)
    | ⟨3, _⟩ => exact (by kernel_rfl : (Instr.index 227 (.agg #[.string ⟨#[]⟩, .string ⟨#[48, 49, 50, 51, 52, 53, 54, 55, 56, 57]⟩, .string ⟨#[97, 98, 99, 100, 101, 102, 103, 104, 105, 106, 107, 108, 109, 110, 111, 112, 113, 114, 115, 116, 117, 118, 119, 120, 121, 122, 65, 66, 67, 68, 69, 70, 71, 72, 73, 74, 75, 76, 77, 78, 79, 80, 81, 82, 83, 84, 85, 86, 87, 88, 89, 90]⟩, .string ⟨#[45, 46, 95, 126]⟩, .string ⟨#[47]⟩, .string ⟨#[32, 9]⟩, .string ⟨#[10]⟩, .string ⟨#[34]⟩, .string ⟨#[40]⟩, .string ⟨#[41]⟩]) (.int .i64 3)).run Tryz.prog w = .ok (.string (octText 3)) w)
    | ⟨4, _⟩ => exact (by kernel_rfl : (Instr.index 227 (.agg #[.string ⟨#[]⟩, .string ⟨#[48, 49, 50, 51, 52, 53, 54, 55, 56, 57]⟩, .string ⟨#[97, 98, 99, 100, 101, 102, 103, 104, 105, 106, 107, 108, 109, 110, 111, 112, 113, 114, 115, 116, 117, 118, 119, 120, 121, 122, 65, 66, 67, 68, 69, 70, 71, 72, 73, 74, 75, 76, 77, 78, 79, 80, 81, 82, 83, 84, 85, 86, 87, 88, 89, 90]⟩, .string ⟨#[45, 46, 95, 126]⟩, .string ⟨#[47]⟩, .string ⟨#[32, 9]⟩, .string ⟨#[10]⟩, .string ⟨#[34]⟩, .string ⟨#[40]⟩, .string ⟨#[41]⟩]) (.int .i64 4)).run Tryz.prog w = .ok (.string (octText 4)) w)
    | ⟨5, _⟩ => exact (by kernel_rfl : (Instr.index 227 (.agg #[.string ⟨#[]⟩, .string ⟨#[48, 49, 50, 51, 52, 53, 54, 55, 56, 57]⟩, .string ⟨#[97, 98, 99, 100, 101, 102, 103, 104, 105, 106, 107, 108, 109, 110, 111, 112, 113, 114, 115, 116, 117, 118, 119, 120, 121, 122, 65, 66, 67, 68, 69, 70, 71, 72, 73, 74, 75, 76, 77, 78, 79, 80, 81, 82, 83, 84, 85, 86, 87, 88, 89, 90]⟩, .string ⟨#[45, 46, 95, 126]⟩, .string ⟨#[47]⟩, .string ⟨#[32, 9]⟩, .string ⟨#[10]⟩, .string ⟨#[34]⟩, .string ⟨#[40]⟩, .string ⟨#[41]⟩]) (.int .i64 5)).run Tryz.prog w = .ok (.string (octText 5)) w)
    | ⟨6, _⟩ => exact (by kernel_rfl : (Instr.index 227 (.agg #[.string ⟨#[]⟩, .string ⟨#[48, 49, 50, 51, 52, 53, 54, 55, 56, 57]⟩, .string ⟨#[97, 98, 99, 100, 101, 102, 103, 104, 105, 106, 107, 108, 109, 110, 111, 112, 113, 114, 115, 116, 117, 118, 119, 120, 121, 122, 65, 66, 67, 68, 69, 70, 71, 72, 73, 74, 75, 76, 77, 78, 79, 80, 81, 82, 83, 84, 85, 86, 87, 88, 89, 90]⟩, .string ⟨#[45, 46, 95, 126]⟩, .string ⟨#[47]⟩, .string ⟨#[32, 9]⟩, .string ⟨#[10]⟩, .string ⟨#[34]⟩, .string ⟨#[40]⟩, .string ⟨#[41]⟩]) (.int .i64 6)).run Tryz.prog w = .ok (.string (octText 6)) w)
    | ⟨7, _⟩ => exact (by kernel_rfl : (Instr.index 227 (.agg #[.string ⟨#[]⟩, .string ⟨#[48, 49, 50, 51, 52, 53, 54, 55, 56, 57]⟩, .string ⟨#[97, 98, 99, 100, 101, 102, 103, 104, 105, 106, 107, 108, 109, 110, 111, 112, 113, 114, 115, 116, 117, 118, 119, 120, 121, 122, 65, 66, 67, 68, 69, 70, 71, 72, 73, 74, 75, 76, 77, 78, 79, 80, 81, 82, 83, 84, 85, 86, 87, 88, 89, 90]⟩, .string ⟨#[45, 46, 95, 126]⟩, .string ⟨#[47]⟩, .string ⟨#[32, 9]⟩, .string ⟨#[10]⟩, .string ⟨#[34]⟩, .string ⟨#[40]⟩, .string ⟨#[41]⟩]) (.int .i64 7)).run Tryz.prog w = .ok (.string (octText 7)) w)
    | ⟨8, _⟩ => exact (by kernel_rfl : (Instr.index 227 (.agg #[.string ⟨#[]⟩, .string ⟨#[48, 49, 50, 51, 52, 53, 54, 55, 56, 57]⟩, .string ⟨#[97, 98, 99, 100, 101, 102, 103, 104, 105, 106, 107, 108, 109, 110, 111, 112, 113, 114, 115, 116, 117, 118, 119, 120, 121, 122, 65, 66, 67, 68, 69, 70, 71, 72, 73, 74, 75, 76, 77, 78, 79, 80, 81, 82, 83, 84, 85, 86, 87, 88, 89, 90]⟩, .string ⟨#[45, 46, 95, 126]⟩, .string ⟨#[47]⟩, .string ⟨#[32, 9]⟩, .string ⟨#[10]⟩, .string ⟨#[34]⟩, .string ⟨#[40]⟩, .string ⟨#[41]⟩]) (.int .i64 8)).run Tryz.prog w = .ok (.string (octText 8)) w)
    | ⟨9, _⟩ => exact (by kernel_rfl : (Instr.index 227 (.agg #[.string ⟨#[]⟩, .string ⟨#[48, 49, 50, 51, 52, 53, 54, 55, 56, 57]⟩, .string ⟨#[97, 98, 99, 100, 101, 102, 103, 104, 105, 106, 107, 108, 109, 110, 111, 112, 113, 114, 115, 116, 117, 118, 119, 120, 121, 122, 65, 66, 67, 68, 69, 70, 71, 72, 73, 74, 75, 76, 77, 78, 79, 80, 81, 82, 83, 84, 85, 86, 87, 88, 89, 90]⟩, .string ⟨#[45, 46, 95, 126]⟩, .string ⟨#[47]⟩, .string ⟨#[32, 9]⟩, .string ⟨#[10]⟩, .string ⟨#[34]⟩, .string ⟨#[40]⟩, .string ⟨#[41]⟩]) (.int .i64 9)).run Tryz.prog w = .ok (.string (octText 9)) w)
  exact hall ⟨i, hi⟩
def octRun (i : Nat) : List (UInt8 × Nat) := (octText i).data.toList.map fun c => (c, i)
theorem octRun_length (i : Nat) : (octRun i).length = (octText i).size := by unfold octRun; rw [List.length_map, ← Lib.size_eq]
theorem octRun_get (i k : Nat) (hk : k < (octText i).size) : (octRun i)[k]? = some ((octText i)[k]'hk, i) := by
  unfold octRun
  rw [List.getElem?_map, Lib.data_getElem? _ k hk]; rfl
theorem octText_small (i : Nat) (hi : i < 10) : (octText i).size ≤ 60 := by
  have h : i = 0 ∨ i = 1 ∨ i = 2 ∨ i = 3 ∨ i = 4 ∨ i = 5 ∨ i = 6 ∨ i = 7 ∨ i = 8 ∨ i = 9 := by omega
  rcases h with rfl | rfl | rfl | rfl | rfl | rfl | rfl | rfl | rfl | rfl <;> decide
theorem octDone_succ (i : Nat) (hi : i < 10) : octDone i ++ octRun i = octDone (i + 1) := by
  have h : i = 0 ∨ i = 1 ∨ i = 2 ∨ i = 3 ∨ i = 4 ∨ i = 5 ∨ i = 6 ∨ i = 7 ∨ i = 8 ∨ i = 9 := by omega
  rcases h with rfl | rfl | rfl | rfl | rfl | rfl | rfl | rfl | rfl | rfl <;> rfl
theorem octInfo : (Tryz.prog.info? 220).map (·.size) = some 256 := by kernel_rfl
set_option maxHeartbeats 4000000 in
set_option maxRecDepth 1000000 in
theorem octet_classes.calls (w : World) :
    Calls Tryz.prog 204 #[] w fun e w' => e = .returned (.agg (octTab (octDone 10))) ∧ w' = w.alloc (.cells (octTab (octDone 10)) 220) := by
  go_enter Tryz.func204, Tryz.ntmps204
  go_wp2
  have hz : Tryz.zeroCells220 = octTab (octDone 0) := by kernel_rfl
  rw [hz]
  clear hz
  go_loopg [5] 10 (fun g s5 wx => ∃ i : Nat, i + g = 10 ∧ s5 = .int .i64 i ∧ wx = w.alloc (.cells (octTab (octDone i)) 220))
  case atStart => exact ⟨0, rfl, rfl, rfl⟩
  case round =>
    obtain ⟨i, hig, rfl, rfl⟩ := hrel
    cases gk with
    | zero =>
      obtain rfl : i = 10 := by omega
      have hsz := octTab_size (octDone 10)
      have hon := octTab_one (octDone 10)
      have hst := run_storeCells_new (P := Tryz.prog) w 220 (octTab (octDone 10)) (octTab (octDone 10)) (by rw [hsz]; exact octInfo) rfl hon
      have Hst := Lib.hid hst
      clear hst hon hsz hig
      have hlt : ¬ ((10 : Int) < 10) := by omega
      go_wp2
      refine wp_load_row 220 _ rfl w.heap.size rfl 220 (octTab (octDone 10)) (0, 0) _ (heap_alloc_new _ _) Tryz.underlying220 rfl (by rw [octTab_size]; exact octInfo) ?_
      go_wp2
      rw [Hst.out]
      simp only [Result.andThen]
      rw [Oper.upon_skip]
      go_wp2
      (try simp only [Exit.inBlock, Exit.then])
      exact bodyPost_ret (v := .agg (octTab (octDone 10))) (results_cell_row rfl _ _ w.heap.size 220 _ (0, 0) _ rfl (heap_alloc_new _ _) Tryz.underlying220 rfl (by rw [octTab_size]; exact octInfo)) rfl ⟨rfl, rfl⟩
    | succ g =>
      have hi : i < 10 := by omega
      have hidx := octArr_index i hi
      have hsm := octText_small i hi
      go_wp2
      go_loopg [11] (octText i).size (fun g s11 wx => ∃ k : Nat, k + g = (octText i).size ∧ s11 = .int .i64 k ∧ wx = w.alloc (.cells (octTab (octDone i ++ (octRun i).take k)) 220))
      case atStart => exact ⟨0, by omega, rfl, by simp⟩
      case round =>
        obtain ⟨k, hkg, rfl, rfl⟩ := hrel
        cases gk with
        | zero =>
          obtain rfl : k = (octText i).size := by omega
          have hlt : ¬ (((octText i).size : Int) < ((octText i).size : Int)) := by omega
          rw [List.take_of_length_le (Nat.le_of_eq (octRun_length i))]
          rw [octDone_succ i hi]
          go_wp2
          go_roundg g
          case measure => omega
          case rel => exact ⟨i + 1, by omega, by first | rfl | simp, rfl⟩
        | succ g2 =>
          have hlt : (k : Int) < ((octText i).size : Int) := by omega
          have hk : k < (octText i).size := by omega
          obtain ⟨x, hx⟩ : ∃ x : UInt8, (octText i)[k]'hk = x := ⟨_, rfl⟩
          have hx256 : (x.toNat : Int) < 256 := by have := UInt8.toNat_lt x; omega
          obtain ⟨n, hcell⟩ := octTab_ints (octDone i ++ (octRun i).take k) x.toNat (UInt8.toNat_lt x)
          have Hx : Aside ((octRun i)[k]? = some (x, i)) := by rw [← hx]; exact octRun_get i k hk
          go_wp2
          go_roundg g2
          case measure => omega
          case rel => exact ⟨k + 1, by omega, by first | rfl | simp, by rw [List.take_add_one, Hx.out]; simp only [Option.toList]; rw [← List.append_assoc, octTab_snoc]⟩
theorem oct_index (c : Int) (h0 : 0 ≤ c) (h1 : c ≤ 255) (w : World) : (Instr.index 220 (.agg (octTab (octDone 10))) (.int .u8 c)).run Tryz.prog w = .ok (.int .i64 (octClass c.toNat.toUInt8 : Nat)) w := by
  have hat := octTab_at c.toNat.toUInt8
  have hc : c.toNat.toUInt8.toNat = c.toNat := by simp; omega
  rw [hc] at hat
  have hz : ∀ w : World, (Go.sizeOf 3).run Tryz.prog w = .ok 1 w := fun _ => by kernel_rfl
  have hag : ∀ w : World, (isAgg 3).run Tryz.prog w = .ok false w := fun _ => by kernel_rfl
  have hlt : (0 ≤ c ∧ c < ((256 : Nat) : Int)) := ⟨h0, by omega⟩
  unfold Instr.index
  simp only [asIntOf, Sem.run_bind, Sem.run_pure, Result.andThen_ok, run_underlying Tryz.underlying220, if_pos hlt, hz, part, Nat.mul_one]
  simp [hag, hat, Result.andThen]
def octet_Class.f (a0 : Int) : Option Int := if 0 ≤ a0 ∧ a0 ≤ 255 then some ((octClass a0.toNat.toUInt8 : Nat) : Int) else none
set_option maxHeartbeats 4000000 in
set_option maxRecDepth 1000000 in
theorem octet_Class.calls0 (a0 : Int) (h0 : 0 ≤ a0) (h1 : a0 ≤ 255) (w : World) :
    Calls Tryz.prog 202 #[.int .u8 a0] w fun e w' => e = .returned (.int .i64 ((octClass a0.toNat.toUInt8 : Nat) : Int)) ∧ Below w.heap.size w w' := by
  have hix := oct_index a0 h0 h1
  go_enter Tryz.func202, Tryz.ntmps202
  go_wp2_with (go_at_call 204; refine (octet_classes.calls _).mono ?_; rintro e w' ⟨rfl, rfl⟩)
  go_ret
  exact ⟨rfl, (Below.refl _ _).alloc (Nat.le_refl _) _⟩
theorem octet_Class.calls (a0 : Int) (r : Int) (w : World) (h : octet_Class.f a0 = some r) :
    Calls Tryz.prog 202 #[.int .u8 a0] w fun e w' => e = .returned (.int .i64 r) ∧ Below w.heap.size w w' := by
  unfold octet_Class.f at h
  split at h
  · rename_i hc
    obtain rfl := Option.some.inj h
    exact octet_Class.calls0 a0 hc.1 hc.2 w
  · cases h
end Go.Proofs.YtjfcmkddeglghaaGreatDoor.G
end
section
namespace Go.Proofs.YtjfcmkddeglghaaGreatDoor.G
open Go.RowKit Go.Proofs.YtjfcmkddeglghaaGreatDoorW.PrintWords Go.Proofs.YtjfcmkddeglghaaGreatDoorW.PrintLast Go.Proofs.YtjfcmkddeglghaaGreatDoorW.PrintMore
attribute [local go_sem] max2_int min2_int max_two min_two max_three min_three max_four min_four
set_option linter.unusedVariables false
set_option linter.unusedSimpArgs false
def octet_In.l0 : Nat → Int → List Int → Int → Int → Option (Bool)
 | 0, _, _, _, _ => none
 | k + 1, x5, x10, x11, x12 => if x12 < x11 then (if 0 ≤ x12 then (if x12 < (x10.length : Int) then (if (rd x10 x12) = x5 then (some true) else (octet_In.l0 k x5 x10 x11 (wrap64 (x12 + 1)))) else (none)) else (none)) else (some false)
def octet_In.f (k : Nat) (a0 : Int) (l1 : List Int) : Option (Bool) := (octet_Class.f a0).bind fun t101 => (octet_In.l0 k t101 l1 (l1.length : Int) 0)
set_option maxHeartbeats 8000000 in
set_option maxRecDepth 100000 in
theorem octet_In.calls (k : Nat) (a0 : Int) (A1 : Option Addr) (c1 : Nat) (l1 : List Int) (r : Bool) (w : World) (hr1 : Kd.C (Kd.int .i64) w A1 l1.length l1) (hc1 : l1.length ≤ c1) (h : octet_In.f k a0 l1 = some r) :
  Calls Tryz.prog 190 #[.int .u8 a0, .slice A1 l1.length c1] w fun e w' => e = .returned (.bool r) ∧ Below w.heap.size w w' := by
 have HR1 := Aside0.mk hr1
 have HC1 := Aside0.mk hc1
 clear hr1 hc1
 have HB := Aside0.mk (Below.refl w.heap.size w)
 have H : ((octet_Class.f a0).bind fun t101 => (octet_In.l0 k t101 l1 (l1.length : Int) 0)) = some r := h
 clear h
 obtain ⟨t101, A3, H⟩ := bo H
 have H' := Aside0.mk H
 clear H
 go_enter Tryz.func190, Tryz.ntmps190
 go_wp2_with (first | ((with_reducible refine gate_callee (f := 202) rfl ?_); refine gl 9 Tryz.func202 #[.int .u8 a0] ?_; (with_reducible refine (octet_Class.calls a0 t101 _ A3.out).mono ?_); rintro e w4 ⟨rfl, hb⟩; refine ⟨_, rfl, ?_⟩; have n0_ := bs HB hb; revert n0_; clear HB; intro HB; (try clear hb)))
 go_loopg [12] k (fun kq v12 w' => ∃ (x12_1 : Int), v12 = .int .i64 x12_1 ∧ Aside0 (octet_In.l0 kq t101 l1 (l1.length : Int) x12_1 = some r) ∧ Aside0 (kq ≤ k) ∧ Aside0 (Below w.heap.size w w'))
 case atStart => exact ⟨(0), (by first | rfl | (simp; done) | (simp [*]; done)), H', ⟨Nat.le_refl _⟩, ⟨ba HB⟩⟩
 case round =>
  clear H'
  try clear c1
  try clear c2
  try clear p2
  obtain ⟨x12_1, rfl, HA, HK1, HB⟩ := hrel
  cases gk with
  | zero => exact absurd HA.out (by simp [octet_In.l0])
  | succ k1 =>
   have H := HA.out
   clear HA
   simp only [octet_In.l0] at H
   by_cases c5 : x12_1 < (l1.length : Int)
   ·rw [if_pos c5] at H
    have c5b0 : decide (x12_1 < (l1.length : Int)) = true := decide_eq_true c5
    clear c5
    by_cases c6 : 0 ≤ x12_1
    ·rw [if_pos c6] at H
     have c6b0 : decide (0 ≤ x12_1) = true := decide_eq_true c6
     clear c6
     by_cases c7 : x12_1 < (l1.length : Int)
     ·rw [if_pos c7] at H
      have c7b0 : decide (x12_1 < (l1.length : Int)) = true := decide_eq_true c7
      clear c7
      by_cases c8 : (rd l1 x12_1) = t101
      ·rw [if_pos c8] at H
       have c8b0 := beq_iff_eq.mpr c8
       have c8b1 := bne_eq_false_iff_eq.mpr c8
       clear c8
       obtain rfl := Option.some.inj H
       have p102 : 0 ≤ (x12_1 : Int) := of_decide_eq_true (by first | (with_reducible assumption) | assumption)
       have q102 : x12_1 < (l1.length : Int) := of_decide_eq_true (by first | (with_reducible assumption) | assumption)
       obtain ⟨ad102, e102, hx102_0⟩ := Kd.at_int HR1.out x12_1 p102 q102
       cases e102
       replace hx102_0 := (HB.out.cell (World.block_lt_of_cell? w _ hx102_0)).trans hx102_0
       replace p102 := eq_true p102
       replace q102 := eq_true q102
       go_wp2
       go_ret
       exact ⟨by first | rfl | (simp [errW_none, errW_some] <;> rfl) | (simp [*, errW_none, errW_some] <;> rfl), ba HB⟩
      ·rw [if_neg c8] at H
       have c8b0 := beq_eq_false_iff_ne.mpr c8
       have c8b1 := bne_iff_ne.mpr c8
       have H' := Aside0.mk H
       clear H
       have p102 : 0 ≤ (x12_1 : Int) := of_decide_eq_true (by first | (with_reducible assumption) | assumption)
       have q102 : x12_1 < (l1.length : Int) := of_decide_eq_true (by first | (with_reducible assumption) | assumption)
       obtain ⟨ad102, e102, hx102_0⟩ := Kd.at_int HR1.out x12_1 p102 q102
       cases e102
       replace hx102_0 := (HB.out.cell (World.block_lt_of_cell? w _ hx102_0)).trans hx102_0
       replace p102 := eq_true p102
       replace q102 := eq_true q102
       go_wp2
       go_roundg k1
       case measure => have := HK1.out; omega
       case rel => exact ⟨(wrap64 (x12_1 + 1)), (by first | rfl | (simp; done) | (simp [*]; done)), H', ⟨by have := HK1.out; omega⟩, ⟨ba HB⟩⟩
     ·rw [if_neg c7] at H
      exact absurd H (by simp)
    ·rw [if_neg c6] at H
     exact absurd H (by simp)
   ·rw [if_neg c5] at H
    have c5b0 : decide (x12_1 < (l1.length : Int)) = false := decide_eq_false c5
    clear c5
    obtain rfl := Option.some.inj H
    go_wp2
    go_ret
    exact ⟨by first | rfl | (simp [errW_none, errW_some] <;> rfl) | (simp [*, errW_none, errW_some] <;> rfl), ba HB⟩
end Go.Proofs.YtjfcmkddeglghaaGreatDoor.G
end
section
namespace Go.Proofs.YtjfcmkddeglghaaGreatDoor.G
open Go.RowKit Go.Lib Go.Proofs.YtjfcmkddeglghaaGreatDoorW.PrintWords Go.Proofs.YtjfcmkddeglghaaGreatDoorW.PrintLast
set_option linter.unusedVariables false
set_option linter.unusedSimpArgs false
def octEl (c : UInt8) : Bool := octClass c == 1 || octClass c == 2 || octClass c == 3
def lastOf (s : List UInt8) : Int := match s.getLast? with | none => 46 | some c => (c.toNat : Int)
def elemB (s : List UInt8) : Bool := s != [] && s.head? != some 46 && s.getLast? != some 46 && s.all octEl
def path_element.f (a0 : ByteArray) : Option Bool := if a0.size ≤ 9223372036854775807 then some (elemB a0.data.toList) else none
theorem inEl : ∀ n : Fin 10, ((some ((n.val : Nat) : Int)).bind fun t => octet_In.l0 5 t [1, 2, 3] (([1, 2, 3] : List Int).length : Int) 0) = some (n.val == 1 || n.val == 2 || n.val == 3) := by decide +kernel
theorem octet_In_elem (c : UInt8) : octet_In.f 5 (c.toNat : Int) [1, 2, 3] = some (octEl c) := by
  have h1 := UInt8.toNat_lt c
  unfold octet_In.f octet_Class.f
  rw [if_pos ⟨by omega, by omega⟩]
  have h2 : ((c.toNat : Int)).toNat.toUInt8 = c := by simp
  rw [h2]
  exact inEl ⟨octClass c, octClass_lt c⟩
theorem octet_In_call (c : UInt8) (g : Nat) (w : World) (hg : w.heap[g]? = some (.cells #[.int .i64 1, .int .i64 2, .int .i64 3] 3 (0, 0))) :
    Calls Tryz.prog 190 #[.int .u8 (c.toNat : Int), .slice (some ⟨g, 0, none⟩) 3 3] w fun e w' => e = .returned (.bool (octEl c)) ∧ Below w.heap.size w w' := by
  refine octet_In.calls 5 (c.toNat : Int) (some ⟨g, 0, none⟩) 3 [1, 2, 3] _ w ⟨rfl, by decide, fun _ => ⟨⟨g, 0, none⟩, rfl, fun j p hj => ?_⟩⟩ (Nat.le_refl _) (octet_In_elem c)
  refine ⟨[.int .i64 p], rfl, rfl, fun i u hu => ?_⟩
  have hi : i = 0 := by
    have := (List.getElem?_eq_some_iff.1 hu).1
    simp at this; exact this
  subst hi
  simp at hu
  subst hu
  have hj3 : j < 3 := (List.getElem?_eq_some_iff.1 hj).1
  rw [add_plain]
  rw [cell_of_row _ _ _ _ _ _ hg]
  have h4 : j = 0 ∨ j = 1 ∨ j = 2 := by omega
  rcases h4 with rfl | rfl | rfl <;> simp_all [Kd.int, Kd.scalar]
theorem octEl_high (c : UInt8) (h : 128 ≤ c.toNat) : octEl c = false := by
  have h1 : ((List.range 256).all fun n => decide (n < 128) || !octEl n.toUInt8) = true := by decide +kernel
  have h2 := List.all_eq_true.1 h1 c.toNat (List.mem_range.2 (UInt8.toNat_lt c))
  have h3 : c.toNat.toUInt8 = c := by simp
  rw [h3] at h2
  have h4 : decide (c.toNat < 128) = false := decide_eq_false (by omega)
  rw [h4] at h2
  simpa using h2
theorem elem_end (s : List UInt8) (h1 : s.all octEl = true) (h2 : s ≠ [] → s.head? ≠ some 46) : (lastOf s != 46) = elemB s := by
  unfold lastOf elemB
  rcases List.eq_nil_or_concat s with rfl | ⟨l, c, e⟩
  · rfl
  · have hne : s ≠ [] := by rw [e]; simp
    have hl : s.getLast? = some c := by rw [e]; simp
    have hh := h2 hne
    rw [hl, h1]
    have e1 : (s != []) = true := by simpa using hne
    have e2 : (s.head? != some 46) = true := by simpa using hh
    rw [e1, e2]
    simp only [Bool.true_and, Bool.and_true]
    by_cases hc : c = 46
    · subst hc; rfl
    · have h3 : ¬ c.toNat = 46 := fun e => hc (UInt8.toNat_inj.1 (by rw [e]; rfl))
      have e3 : ((c.toNat : Int) != 46) = true := by simp; omega
      have e4 : (some c != some (46 : UInt8)) = true := by simpa using hc
      rw [e4]; exact e3
theorem elem_not {s : List UInt8} {i : Nat} {x : UInt8} (h : s[i]? = some x) (hx : octEl x = false) : elemB s = false := by
  have : s.all octEl = false := by
    rw [List.all_eq_false]
    exact ⟨x, List.mem_of_getElem? h, by rw [hx]; simp⟩
  unfold elemB
  rw [this, Bool.and_false]
set_option maxHeartbeats 8000000 in
set_option maxRecDepth 1000000 in
theorem path_element.calls (a0 : ByteArray) (r : Bool) (w : World) (h : path_element.f a0 = some r) :
    Calls Tryz.prog 161 #[.string a0] w fun e w' => e = .returned (.bool r) ∧ Below w.heap.size w w' := by
  unfold path_element.f at h
  split at h
  case isFalse => cases h
  rename_i hsz
  obtain rfl := Option.some.inj h
  clear h
  go_enter Tryz.func161, Tryz.ntmps161
  go_wp2
  go_loopg [3] a0.size (fun g s3 wx => ∃ i : Nat, i + g = a0.size ∧ s3 = .int .i32 (lastOf (a0.data.toList.take i)) ∧ Aside0 ((a0.data.toList.take i).all octEl = true ∧ (0 < i → a0.data.toList.head? ≠ some 46)) ∧ wx.heap[w.heap.size]? = some (.stringIter a0 i) ∧ Aside0 (Below w.heap.size w wx))
  case atStart => exact ⟨0, by omega, rfl, ⟨rfl, fun h => absurd h (by omega)⟩, World.iter_heap _ _ _, ⟨(Below.refl _ _).alloc (Nat.le_refl _) _⟩⟩
  case round =>
    obtain ⟨i, hig, rfl, hal, hB, hb⟩ := hrel
    cases gk with
    | zero =>
      obtain rfl : i = a0.size := by omega
      have hnx := fun ty => run_next_end_at (P := Tryz.prog) wr w.heap.size a0 a0.size ty hB (by omega)
      have HB := Aside0.mk hB
      clear hB
      go_wp2
      go_ret
      have hal2 := hal.out
      rw [List.take_of_length_le (by rw [← Lib.size_eq]; exact Nat.le_refl _)] at hal2
      refine ⟨(show Ending.returned (.bool (lastOf (a0.data.toList.take a0.size) != 46)) = Ending.returned (.bool (elemB a0.data.toList)) from ?_), hb.out⟩
      rw [List.take_of_length_le (by rw [← Lib.size_eq]; exact Nat.le_refl _), elem_end _ hal2.1 (fun hne => hal2.2 (by
        have := List.length_pos_iff.2 hne
        rw [← Lib.size_eq] at this; exact this))]
    | succ g =>
      have hi : i < a0.size := by omega
      obtain ⟨x, hx⟩ : ∃ x : UInt8, a0[i]'hi = x := ⟨_, rfl⟩
      have Hx : Aside0 (a0.data.toList[i]? = some x) := ⟨by rw [← hx]; exact Lib.data_getElem? _ i hi⟩
      by_cases hx128 : x.toNat < 128
      · have hnx := fun ty => run_next_ascii_at (P := Tryz.prog) wr w.heap.size a0 i ty hB hi (by rw [hx]; exact hx128)
        rw [hx] at hnx
        have hxi : (x.toNat : Int) < 128 := by omega
        have hxlt : ¬ ((127 : Int) < (x.toNat : Int)) := by omega
        have HB := Aside0.mk hB
        clear hB
        have hb1 : Aside0 (∀ o : Obj, Below w.heap.size w ((wr.iterAt w.heap.size a0 (i + 1)).alloc o)) := ⟨fun o => (below_iterAt hb.out (Nat.le_refl _) _ _).alloc (by rw [iterAt_size]; exact hb.out.size) _⟩
        have hit : Aside0 (∀ o : Obj, ((wr.iterAt w.heap.size a0 (i + 1)).alloc o).heap[w.heap.size]? = some (.stringIter a0 (i + 1))) := ⟨fun o => by
          have h1 := iterAt_heap wr w.heap.size a0 i (i + 1) HB.out
          exact (Below.heap_alloc _ _ _ (Array.getElem?_eq_some_iff.1 h1).1).trans h1⟩
        cases hel : octEl x with
        | false =>
          have Hel := Aside0.mk hel
          clear hel
          go_wp2_with (go_at_call 190; refine (octet_In_call x _ _ (by exact heap_alloc_new _ _)).mono ?_; rintro e w' ⟨rfl, hb2⟩; rw [Hel.out])
          go_ret
          exact ⟨by rw [elem_not Hx.out Hel.out]; rfl, below_then (hb1.out _) (hb1.out _).size hb2⟩
        | true =>
          have Hel := Aside0.mk hel
          clear hel
          by_cases h0 : i = 0
          · have h0b : ((i : Int) == 0) = true := by simp [h0]
            have H0 := Aside0.mk h0
            clear h0
            by_cases h46 : x = 46
            · have h46b : ((x.toNat : Int) == 46) = true := by subst h46; rfl
              have H46 := Aside0.mk h46
              clear h46
              go_wp2_with (go_at_call 190; refine (octet_In_call x _ _ (by exact heap_alloc_new _ _)).mono ?_; rintro e w' ⟨rfl, hb2⟩; rw [Hel.out])
              go_ret
              refine ⟨?_, below_then (hb1.out _) (hb1.out _).size hb2⟩
              have hh : a0.data.toList.head? = some 46 := by
                have := Hx.out
                rw [H0.out, H46.out] at this
                rw [List.head?_eq_getElem?]; exact this
              have : elemB a0.data.toList = false := by unfold elemB; rw [hh]; simp
              rw [this]; rfl
            · have h46b : ((x.toNat : Int) == 46) = false := by
                have h3 : ¬ x.toNat = 46 := fun e => h46 (UInt8.toNat_inj.1 (by rw [e]; rfl))
                simp; omega
              have H46 := Aside0.mk h46
              clear h46
              go_wp2_with (go_at_call 190; refine (octet_In_call x _ _ (by exact heap_alloc_new _ _)).mono ?_; rintro e w' ⟨rfl, hb2⟩; rw [Hel.out])
              go_roundg g
              case measure => omega
              case rel =>
                refine ⟨i + 1, by omega, ?_, ⟨?_, fun _ => ?_⟩, (hb2.block _ (Array.getElem?_eq_some_iff.1 (hit.out _)).1).trans (hit.out _), ⟨below_then (hb1.out _) (hb1.out _).size hb2⟩⟩
                · rw [List.take_add_one, Hx.out]; simp [lastOf, Option.toList]
                · rw [List.take_add_one, Hx.out, List.all_append, hal.out.1]; simp [Option.toList, Hel.out]
                · have := Hx.out
                  rw [H0.out] at this
                  rw [List.head?_eq_getElem?, this]
                  exact fun e => H46.out (Option.some.inj e)
          · have h0b : ((i : Int) == 0) = false := by simp; omega
            have H0 := Aside0.mk h0
            clear h0
            go_wp2_with (go_at_call 190; refine (octet_In_call x _ _ (by exact heap_alloc_new _ _)).mono ?_; rintro e w' ⟨rfl, hb2⟩; rw [Hel.out])
            go_roundg g
            case measure => omega
            case rel =>
              refine ⟨i + 1, by omega, ?_, ⟨?_, fun _ => hal.out.2 (by have := H0.out; omega)⟩, (hb2.block _ (Array.getElem?_eq_some_iff.1 (hit.out _)).1).trans (hit.out _), ⟨below_then (hb1.out _) (hb1.out _).size hb2⟩⟩
              · rw [List.take_add_one, Hx.out]; simp [lastOf, Option.toList]
              · rw [List.take_add_one, Hx.out, List.all_append, hal.out.1]; simp [Option.toList, Hel.out]
      · have hnx := fun ty => run_next_any_at (P := Tryz.prog) wr w.heap.size a0 i ty hB hi
        have hd := (decode_high a0 i hi (by rw [hx]; omega)).1
        generalize Utf8.decode a0 i = d at hnx hd
        have hdi : (127 : Int) < (d.1 : Int) := by omega
        have HB := Aside0.mk hB
        clear hB
        go_wp2
        go_ret
        exact ⟨by rw [elem_not Hx.out (octEl_high x (by omega))]; rfl, below_iterAt hb.out (Nat.le_refl _) _ _⟩
end Go.Proofs.YtjfcmkddeglghaaGreatDoor.G
end
section
namespace Go.Proofs.YtjfcmkddeglghaaGreatDoor.G
open Go.RowKit Go.Proofs.YtjfcmkddeglghaaGreatDoorW.PrintWords Go.Proofs.YtjfcmkddeglghaaGreatDoorW.PrintLast Go.Proofs.YtjfcmkddeglghaaGreatDoorW.PrintMore
attribute [local go_sem] max2_int min2_int max_two min_two max_three min_three max_four min_four
set_option linter.unusedVariables false
set_option linter.unusedSimpArgs false
def path_Elements.l0 : Nat → List ByteArray → List ByteArray → Int → Int → Option (List ByteArray × Int)
 | 0, _, _, _, _ => none
 | k + 1, x4, x9, x10, x11 => if x11 < x10 then (if 0 ≤ x11 then (if x11 < (x9.length : Int) then ((path_element.f (rdOf ByteArray.empty x9 x11)).bind fun t113 => (if t113 = true then (path_Elements.l0 k x4 x9 x10 (wrap64 (x11 + 1))) else (some (([] : List ByteArray), 1)))) else (none)) else (none)) else (some (x4, 0))
def path_Elements.f (k : Nat) (a0 : ByteArray) : Option (List ByteArray × Int) := (octet_Parts.f a0 47).bind fun t109 => (path_Elements.l0 k t109 t109 (t109.length : Int) 0)
set_option maxHeartbeats 8000000 in
set_option maxRecDepth 100000 in
theorem path_Elements.calls (k : Nat) (a0 : ByteArray) (r1 : List ByteArray) (r2 : Int) (w : World) (h : path_Elements.f k a0 = some (r1, r2)) :
  Calls Tryz.prog 126 #[.string a0] w fun e w' => ∃ v0_ : Value, e = .returned (.tuple #[v0_, .int .i64 r2]) ∧ Kd.R Kd.string 9 w' w.heap.size (fun _ => True) v0_ r1 ∧ Below w.heap.size w w' := by
 have HB := Aside0.mk (Below.refl w.heap.size w)
 have H : ((octet_Parts.f a0 47).bind fun t109 => (path_Elements.l0 k t109 t109 (t109.length : Int) 0)) = some (r1, r2) := h
 clear h
 obtain ⟨t109, A2, H⟩ := bo H
 have H' := Aside0.mk H
 clear H
 go_enter Tryz.func126, Tryz.ntmps126
 go_wp2_with (first | ((with_reducible refine gate_callee (f := 160) rfl ?_); refine gl 8 Tryz.func160 #[.string a0, .int .u8 47] ?_; (with_reducible refine (octet_Parts.calls a0 47 t109 _ A2.out).mono ?_); rintro e w3 ⟨v110, rfl, ho0, hb⟩; refine ⟨_, rfl, ?_⟩; have n0_ := Aside0.mk (Kd.R_lower ho0 (bz HB)); have n1_ := bs HB hb; revert n0_ n1_; clear HB; intro HO111 HB; (try clear hb); (try clear ho0); obtain ⟨Ao4, co4, eo4⟩ := Kd.R_slice HO111.out; subst eo4))
 go_loopg [11] k (fun kq v11 w' => ∃ (x11_1 : Int), v11 = .int .i64 x11_1 ∧ Aside0 (path_Elements.l0 kq t109 t109 (t109.length : Int) x11_1 = some (r1, r2)) ∧ Aside0 (kq ≤ k) ∧ Aside0 (Kd.R Kd.string 9 w' w.heap.size (fun _ => True) (.slice Ao4 t109.length co4) t109) ∧ Aside0 (Kd.R Kd.string 9 w' w.heap.size (fun _ => True) (.slice Ao4 t109.length co4) t109) ∧ Aside0 (Below w.heap.size w w'))
 case atStart => exact ⟨(0), (by first | rfl | (simp; done) | (simp [*]; done)), H', ⟨Nat.le_refl _⟩, ⟨ra HO111⟩, ⟨ra HO111⟩, ⟨ba HB⟩⟩
 case round =>
  clear H'
  try clear c1
  try clear p2
  obtain ⟨x11_1, rfl, HA, HK1, HO_4, HO_9, HB⟩ := hrel
  cases gk with
  | zero => exact absurd HA.out (by simp [path_Elements.l0])
  | succ k1 =>
   have H := HA.out
   clear HA
   simp only [path_Elements.l0] at H
   by_cases c5 : x11_1 < (t109.length : Int)
   ·rw [if_pos c5] at H
    have c5b0 : decide (x11_1 < (t109.length : Int)) = true := decide_eq_true c5
    clear c5
    by_cases c6 : 0 ≤ x11_1
    ·rw [if_pos c6] at H
     have c6b0 : decide (0 ≤ x11_1) = true := decide_eq_true c6
     clear c6
     by_cases c7 : x11_1 < (t109.length : Int)
     ·rw [if_pos c7] at H
      have c7b0 : decide (x11_1 < (t109.length : Int)) = true := decide_eq_true c7
      clear c7
      obtain ⟨t113, A8, H⟩ := bo H
      by_cases c9 : t113 = true
      ·subst c9
       replace H := it H
       have H' := Aside0.mk H
       clear H
       have p112 : 0 ≤ (x11_1 : Int) := of_decide_eq_true (by first | (with_reducible assumption) | assumption)
       have q112 : x11_1 < (t109.length : Int) := of_decide_eq_true (by first | (with_reducible assumption) | assumption)
       obtain ⟨ad112, e112, hx112_0⟩ := Kd.at_string (Kd.R_reads' HO_9.out).2.2 x11_1 p112 q112
       cases e112
       replace p112 := eq_true p112
       replace q112 := eq_true q112
       go_wp2_with (first | ((with_reducible refine gate_callee (f := 161) rfl ?_); refine gl 16 Tryz.func161 #[.string (rdOf ByteArray.empty t109 x11_1)] ?_; (with_reducible refine (path_element.calls (rdOf ByteArray.empty t109 x11_1) true _ A8.out).mono ?_); rintro e w10 ⟨rfl, hb⟩; refine ⟨_, rfl, ?_⟩; have n0_ := rb HO_4 hb; have n1_ := rb HO_9 hb; have n2_ := bs HB hb; revert n0_ n1_ n2_; clear HO_4 HO_9 HB; intro HO_4 HO_9 HB; (try clear hb)))
       go_roundg k1
       case measure => have := HK1.out; omega
       case rel => exact ⟨(wrap64 (x11_1 + 1)), (by first | rfl | (simp; done) | (simp [*]; done)), H', ⟨by have := HK1.out; omega⟩, ⟨ra HO_4⟩, ⟨ra HO_9⟩, ⟨ba HB⟩⟩
      ·replace c9 := Bool.eq_false_iff.mpr c9
       subst c9
       replace H := jf H
       simp only [Option.some.injEq, Prod.mk.injEq] at H
       obtain ⟨rfl, rfl⟩ := H
       have p112 : 0 ≤ (x11_1 : Int) := of_decide_eq_true (by first | (with_reducible assumption) | assumption)
       have q112 : x11_1 < (t109.length : Int) := of_decide_eq_true (by first | (with_reducible assumption) | assumption)
       obtain ⟨ad112, e112, hx112_0⟩ := Kd.at_string (Kd.R_reads' HO_9.out).2.2 x11_1 p112 q112
       cases e112
       replace p112 := eq_true p112
       replace q112 := eq_true q112
       go_wp2_with (first | ((with_reducible refine gate_callee (f := 161) rfl ?_); refine gl 16 Tryz.func161 #[.string (rdOf ByteArray.empty t109 x11_1)] ?_; (with_reducible refine (path_element.calls (rdOf ByteArray.empty t109 x11_1) false _ A8.out).mono ?_); rintro e w11 ⟨rfl, hb⟩; refine ⟨_, rfl, ?_⟩; have n0_ := rb HO_4 hb; have n1_ := rb HO_9 hb; have n2_ := bs HB hb; revert n0_ n1_ n2_; clear HO_4 HO_9 HB; intro HO_4 HO_9 HB; (try clear hb)))
       go_ret2
       exact ⟨_, by first | rfl | (simp [errW_none, errW_some] <;> rfl) | (simp [*, errW_none, errW_some] <;> rfl), by first | exact Kd.R_nil _ _ _ _ _ | exact Kd.N_nil _ _ _ _ _ | exact Kd.V_nil _ _ _ _ _ | exact Kd.Q_nil _ _ _ _ _ | exact Kd.S_nil _ _ _ _ _, ba HB⟩
     ·rw [if_neg c7] at H
      exact absurd H (by simp)
    ·rw [if_neg c6] at H
     exact absurd H (by simp)
   ·rw [if_neg c5] at H
    have c5b0 : decide (x11_1 < (t109.length : Int)) = false := decide_eq_false c5
    clear c5
    simp only [Option.some.injEq, Prod.mk.injEq] at H
    obtain ⟨rfl, rfl⟩ := H
    go_wp2
    go_ret2
    exact ⟨_, by first | rfl | (simp [errW_none, errW_some] <;> rfl) | (simp [*, errW_none, errW_some] <;> rfl), by (with_reducible repeat (first | apply Kd.R_alloc | apply Kd.R_drewN | apply Kd.R_drew)); exact HO_4.out, ba HB⟩
end Go.Proofs.YtjfcmkddeglghaaGreatDoor.G
end
section
namespace Go.Proofs.YtjfcmkddeglghaaGreatDoor.G
open Go.RowKit Go.Proofs.YtjfcmkddeglghaaGreatDoorW.PrintWords Go.Proofs.YtjfcmkddeglghaaGreatDoorW.PrintLast Go.Proofs.YtjfcmkddeglghaaGreatDoorW.PrintMore
attribute [local go_sem] max2_int min2_int max_two min_two max_three min_three max_four min_four
set_option linter.unusedVariables false
set_option linter.unusedSimpArgs false
def path_May.f (k : Nat) (a0 : ByteArray) : Option (Bool) := (path_Elements.f k a0).bind fun bt114 => (some (bt114.2 == 0))
set_option maxHeartbeats 8000000 in
set_option maxRecDepth 100000 in
theorem path_May.calls (k : Nat) (a0 : ByteArray) (r : Bool) (w : World) (h : path_May.f k a0 = some r) :
  Calls Tryz.prog 92 #[.string a0] w fun e w' => e = .returned (.bool r) ∧ Below w.heap.size w w' := by
 have HB := Aside0.mk (Below.refl w.heap.size w)
 have H : ((path_Elements.f k a0).bind fun bt114 => (some (bt114.2 == 0))) = some r := h
 clear h
 obtain ⟨⟨t114, t115⟩, A2, H⟩ := bo H
 replace H : (some (t115 == 0)) = some r := H
 obtain rfl := Option.some.inj H
 go_enter Tryz.func92, Tryz.ntmps92
 go_wp2_with (first | ((with_reducible refine gate_callee (f := 126) rfl ?_); refine gl 7 Tryz.func126 #[.string a0] ?_; (with_reducible refine (path_Elements.calls k a0 t114 t115 _ A2.out).mono ?_); rintro e w3 ⟨v116, rfl, ho0, hb⟩; refine ⟨_, rfl, ?_⟩; have n0_ := Aside0.mk (Kd.R_lower ho0 (bz HB)); have n1_ := bs HB hb; revert n0_ n1_; clear HB; intro HO117 HB; (try clear hb); (try clear ho0)))
 go_ret
 exact ⟨by first | rfl | (simp [errW_none, errW_some] <;> rfl) | (simp [*, errW_none, errW_some] <;> rfl), ba HB⟩
end Go.Proofs.YtjfcmkddeglghaaGreatDoor.G
end
section
namespace Go.Proofs.YtjfcmkddeglghaaGreatDoor.G
open Go.RowKit Go.Proofs.YtjfcmkddeglghaaGreatDoorW.PrintWords Go.Proofs.YtjfcmkddeglghaaGreatDoorW.PrintLast Go.Proofs.YtjfcmkddeglghaaGreatDoorW.PrintMore
attribute [local go_sem] max2_int min2_int max_two min_two max_three min_three max_four min_four
set_option linter.unusedVariables false
set_option linter.unusedSimpArgs false
def stringslite_HasPrefix.f (a0 : ByteArray) (a1 : ByteArray) : Option (Bool) := if (a0.size : Int) ≥ (a1.size : Int) then (if 0 ≤ (a1.size : Int) then (if (a1.size : Int) ≤ (a0.size : Int) then (some ((a0.extract 0 ((a1.size : Int) : Int).toNat).toList == a1.toList)) else (none)) else (none)) else (some false)
set_option maxHeartbeats 8000000 in
set_option maxRecDepth 100000 in
theorem stringslite_HasPrefix.calls (a0 : ByteArray) (a1 : ByteArray) (r : Bool) (w : World) (h : stringslite_HasPrefix.f a0 a1 = some r) :
  Calls Tryz.prog 192 #[.string a0, .string a1] w fun e w' => e = .returned (.bool r) ∧ Drawn0 w w' := by
 have H : (if (a0.size : Int) ≥ (a1.size : Int) then (if 0 ≤ (a1.size : Int) then (if (a1.size : Int) ≤ (a0.size : Int) then (some ((a0.extract 0 ((a1.size : Int) : Int).toNat).toList == a1.toList)) else (none)) else (none)) else (some false)) = some r := h
 clear h
 by_cases c3 : (a0.size : Int) ≥ (a1.size : Int)
 ·rw [if_pos c3] at H
  have c3b0 : decide ((a1.size : Int) ≤ (a0.size : Int)) = true := decide_eq_true c3
  have c3b1 : decide (a1.size ≤ a0.size) = true := decide_eq_true (Int.ofNat_le.mp c3)
  clear c3
  by_cases c4 : 0 ≤ (a1.size : Int)
  ·rw [if_pos c4] at H
   have c4b0 := eq_true c4
   have c4b1 : decide (0 ≤ (a1.size : Int)) = true := decide_eq_true c4
   clear c4
   by_cases c5 : (a1.size : Int) ≤ (a0.size : Int)
   ·rw [if_pos c5] at H
    have c5b0 := eq_true c5
    have c5b1 : decide ((a1.size : Int) ≤ (a0.size : Int)) = true := decide_eq_true c5
    clear c5
    obtain rfl := Option.some.inj H
    go_enter Tryz.func192, Tryz.ntmps192
    go_wp2
    go_ret
    exact ⟨by first | rfl | (simp; done) | (simp [*]; done), by repeat (first | exact Drawn0.refl _ | apply Drawn0.step)⟩
   ·rw [if_neg c5] at H
    exact absurd H (by simp)
  ·rw [if_neg c4] at H
   exact absurd H (by simp)
 ·rw [if_neg c3] at H
  have c3b0 : decide ((a1.size : Int) ≤ (a0.size : Int)) = false := decide_eq_false c3
  have c3b1 : decide (a1.size ≤ a0.size) = false := decide_eq_false (fun h => c3 (Int.ofNat_le.mpr h))
  clear c3
  obtain rfl := Option.some.inj H
  go_enter Tryz.func192, Tryz.ntmps192
  go_wp2
  go_ret
  exact ⟨by first | rfl | (simp; done) | (simp [*]; done), by repeat (first | exact Drawn0.refl _ | apply Drawn0.step)⟩
end Go.Proofs.YtjfcmkddeglghaaGreatDoor.G
end
section
namespace Go.Proofs.YtjfcmkddeglghaaGreatDoor.G
open Go.RowKit Go.Proofs.YtjfcmkddeglghaaGreatDoorW.PrintWords Go.Proofs.YtjfcmkddeglghaaGreatDoorW.PrintLast Go.Proofs.YtjfcmkddeglghaaGreatDoorW.PrintMore
attribute [local go_sem] max2_int min2_int max_two min_two max_three min_three max_four min_four
set_option linter.unusedVariables false
set_option linter.unusedSimpArgs false
def strings_HasPrefix.f (a0 : ByteArray) (a1 : ByteArray) : Option (Bool) := (stringslite_HasPrefix.f a0 a1).bind fun t118 => (some t118)
set_option maxHeartbeats 8000000 in
set_option maxRecDepth 100000 in
theorem strings_HasPrefix.calls (a0 : ByteArray) (a1 : ByteArray) (r : Bool) (w : World) (h : strings_HasPrefix.f a0 a1 = some r) :
  Calls Tryz.prog 171 #[.string a0, .string a1] w fun e w' => e = .returned (.bool r) ∧ Drawn0 w w' := by
 have H : ((stringslite_HasPrefix.f a0 a1).bind fun t118 => (some t118)) = some r := h
 clear h
 obtain ⟨t118, A3, H⟩ := bo H
 obtain rfl := Option.some.inj H
 go_enter Tryz.func171, Tryz.ntmps171
 go_wp2_with (first | ((with_reducible refine gate_callee (f := 192) rfl ?_); refine gl 7 Tryz.func192 #[.string a0, .string a1] ?_; (with_reducible refine (stringslite_HasPrefix.calls a0 a1 t118 _ A3.out).mono ?_); rintro e w' ⟨rfl, ⟨nd, rfl⟩⟩; refine ⟨_, rfl, ?_⟩))
 go_ret
 exact ⟨by first | rfl | (simp; done) | (simp [*]; done), by repeat (first | exact Drawn0.refl _ | apply Drawn0.step)⟩
end Go.Proofs.YtjfcmkddeglghaaGreatDoor.G
end
section
namespace Go.Proofs.YtjfcmkddeglghaaGreatDoor.G
open Go.RowKit Go.Proofs.YtjfcmkddeglghaaGreatDoorW.PrintWords Go.Proofs.YtjfcmkddeglghaaGreatDoorW.PrintLast Go.Proofs.YtjfcmkddeglghaaGreatDoorW.PrintMore
attribute [local go_sem] max2_int min2_int max_two min_two max_three min_three max_four min_four
set_option linter.unusedVariables false
set_option linter.unusedSimpArgs false
def stringslite_Cut.f (a0 : ByteArray) (a1 : ByteArray) : Option (ByteArray × ByteArray × Bool) := (stringslite_Index.f a0 a1).bind fun t119 => (if t119 ≥ 0 then (if 0 ≤ t119 then (if t119 ≤ (a0.size : Int) then (if 0 ≤ (wrap64 (t119 + (a1.size : Int))) then (if (wrap64 (t119 + (a1.size : Int))) ≤ (a0.size : Int) then (some (a0.extract 0 (t119 : Int).toNat, a0.extract ((wrap64 (t119 + (a1.size : Int))) : Int).toNat a0.size, true)) else (none)) else (none)) else (none)) else (none)) else (some (a0, (⟨#[]⟩ : ByteArray), false)))
set_option maxHeartbeats 8000000 in
set_option maxRecDepth 100000 in
theorem stringslite_Cut.calls (a0 : ByteArray) (a1 : ByteArray) (r1 : ByteArray) (r2 : ByteArray) (r3 : Bool) (w : World) (h : stringslite_Cut.f a0 a1 = some (r1, r2, r3)) :
  Calls Tryz.prog 193 #[.string a0, .string a1] w fun e w' => e = .returned (.tuple #[.string r1, .string r2, .bool r3]) ∧ Drawn0 w w' := by
 have H : ((stringslite_Index.f a0 a1).bind fun t119 => (if t119 ≥ 0 then (if 0 ≤ t119 then (if t119 ≤ (a0.size : Int) then (if 0 ≤ (wrap64 (t119 + (a1.size : Int))) then (if (wrap64 (t119 + (a1.size : Int))) ≤ (a0.size : Int) then (some (a0.extract 0 (t119 : Int).toNat, a0.extract ((wrap64 (t119 + (a1.size : Int))) : Int).toNat a0.size, true)) else (none)) else (none)) else (none)) else (none)) else (some (a0, (⟨#[]⟩ : ByteArray), false)))) = some (r1, r2, r3) := h
 clear h
 obtain ⟨t119, A3, H⟩ := bo H
 by_cases c4 : t119 ≥ 0
 ·rw [if_pos c4] at H
  have c4b0 : decide (0 ≤ t119) = true := decide_eq_true c4
  clear c4
  by_cases c5 : 0 ≤ t119
  ·rw [if_pos c5] at H
   have c5b0 := eq_true c5
   have c5b1 : decide (0 ≤ t119) = true := decide_eq_true c5
   clear c5
   by_cases c6 : t119 ≤ (a0.size : Int)
   ·rw [if_pos c6] at H
    have c6b0 := eq_true c6
    have c6b1 : decide (t119 ≤ (a0.size : Int)) = true := decide_eq_true c6
    clear c6
    obtain ⟨ji7, hji7⟩ : ∃ j_ : Int, (wrap64 (t119 + (a1.size : Int))) = j_ := ⟨_, rfl⟩
    replace H : (if 0 ≤ (ji7) then (if (ji7) ≤ (a0.size : Int) then (some (a0.extract 0 (t119 : Int).toNat, a0.extract ((ji7) : Int).toNat a0.size, true)) else (none)) else (none)) = some (r1, r2, r3) := by first | (rw [hji7] at H; exact H) | (simp only [hji7] at H ⊢; exact H)
    (try rw [hji7] at A3)
    have hji7w : (IntKind.i64.wrap (t119 + (a1.size : Int))) = ji7 := (i64_w _).trans hji7
    by_cases c8 : 0 ≤ (ji7)
    ·rw [if_pos c8] at H
     have c8b0 := eq_true c8
     have c8b1 : decide (0 ≤ (ji7)) = true := decide_eq_true c8
     clear c8
     by_cases c9 : (ji7) ≤ (a0.size : Int)
     ·rw [if_pos c9] at H
      have c9b0 := eq_true c9
      have c9b1 : decide ((ji7) ≤ (a0.size : Int)) = true := decide_eq_true c9
      clear c9
      simp only [Option.some.injEq, Prod.mk.injEq] at H
      obtain ⟨rfl, rfl, rfl⟩ := H
      go_enter Tryz.func193, Tryz.ntmps193
      go_wp2_with (first | (go_at_call 203; (with_reducible refine (stringslite_Index.calls a0 a1 t119 _ A3.out).mono ?_); rintro e w' ⟨rfl, ⟨nd, rfl⟩⟩; (try first | exact ⟨rfl, _, World.drewN_drewN _ _ _⟩ | exact ⟨rfl, _, Eq.trans (World.drewN_drewN _ _ _) (congrArg (World.drewN _) (Nat.add_assoc _ _ _))⟩)))
      repeat (go_quiet (first | (go_at_call 203; (with_reducible refine (stringslite_Index.calls a0 a1 t119 _ A3.out).mono ?_); rintro e w' ⟨rfl, ⟨nd, rfl⟩⟩; (try first | exact ⟨rfl, _, World.drewN_drewN _ _ _⟩ | exact ⟨rfl, _, Eq.trans (World.drewN_drewN _ _ _) (congrArg (World.drewN _) (Nat.add_assoc _ _ _))⟩))); try go_wp2_with (first | (go_at_call 203; (with_reducible refine (stringslite_Index.calls a0 a1 t119 _ A3.out).mono ?_); rintro e w' ⟨rfl, ⟨nd, rfl⟩⟩; (try first | exact ⟨rfl, _, World.drewN_drewN _ _ _⟩ | exact ⟨rfl, _, Eq.trans (World.drewN_drewN _ _ _) (congrArg (World.drewN _) (Nat.add_assoc _ _ _))⟩))))
      go_ret3
      exact ⟨by first | rfl | (simp; done) | (simp only [← hji7] <;> (first | rfl | simp)) | (simp [*]; done), by repeat (first | exact Drawn0.refl _ | apply Drawn0.step)⟩
     ·rw [if_neg c9] at H
      exact absurd H (by simp)
    ·rw [if_neg c8] at H
     exact absurd H (by simp)
   ·rw [if_neg c6] at H
    exact absurd H (by simp)
  ·rw [if_neg c5] at H
   exact absurd H (by simp)
 ·rw [if_neg c4] at H
  have c4b0 : decide (0 ≤ t119) = false := decide_eq_false c4
  clear c4
  simp only [Option.some.injEq, Prod.mk.injEq] at H
  obtain ⟨rfl, rfl, rfl⟩ := H
  go_enter Tryz.func193, Tryz.ntmps193
  go_wp2_with (first | (go_at_call 203; (with_reducible refine (stringslite_Index.calls a0 a1 t119 _ A3.out).mono ?_); rintro e w' ⟨rfl, ⟨nd, rfl⟩⟩; (try first | exact ⟨rfl, _, World.drewN_drewN _ _ _⟩ | exact ⟨rfl, _, Eq.trans (World.drewN_drewN _ _ _) (congrArg (World.drewN _) (Nat.add_assoc _ _ _))⟩)))
  repeat (go_quiet (first | (go_at_call 203; (with_reducible refine (stringslite_Index.calls a0 a1 t119 _ A3.out).mono ?_); rintro e w' ⟨rfl, ⟨nd, rfl⟩⟩; (try first | exact ⟨rfl, _, World.drewN_drewN _ _ _⟩ | exact ⟨rfl, _, Eq.trans (World.drewN_drewN _ _ _) (congrArg (World.drewN _) (Nat.add_assoc _ _ _))⟩))); try go_wp2_with (first | (go_at_call 203; (with_reducible refine (stringslite_Index.calls a0 a1 t119 _ A3.out).mono ?_); rintro e w' ⟨rfl, ⟨nd, rfl⟩⟩; (try first | exact ⟨rfl, _, World.drewN_drewN _ _ _⟩ | exact ⟨rfl, _, Eq.trans (World.drewN_drewN _ _ _) (congrArg (World.drewN _) (Nat.add_assoc _ _ _))⟩))))
  go_ret3
  exact ⟨by first | rfl | (simp; done) | (simp [*]; done), by repeat (first | exact Drawn0.refl _ | apply Drawn0.step)⟩
end Go.Proofs.YtjfcmkddeglghaaGreatDoor.G
end
section
namespace Go.Proofs.YtjfcmkddeglghaaGreatDoor.G
open Go.RowKit Go.Proofs.YtjfcmkddeglghaaGreatDoorW.PrintWords Go.Proofs.YtjfcmkddeglghaaGreatDoorW.PrintLast Go.Proofs.YtjfcmkddeglghaaGreatDoorW.PrintMore
attribute [local go_sem] max2_int min2_int max_two min_two max_three min_three max_four min_four
set_option linter.unusedVariables false
set_option linter.unusedSimpArgs false
def strings_Cut.f (a0 : ByteArray) (a1 : ByteArray) : Option (ByteArray × ByteArray × Bool) := (stringslite_Cut.f a0 a1).bind fun bt120 => (some (bt120.1, bt120.2.1, bt120.2.2))
set_option maxHeartbeats 8000000 in
set_option maxRecDepth 100000 in
theorem strings_Cut.calls (a0 : ByteArray) (a1 : ByteArray) (r1 : ByteArray) (r2 : ByteArray) (r3 : Bool) (w : World) (h : strings_Cut.f a0 a1 = some (r1, r2, r3)) :
  Calls Tryz.prog 172 #[.string a0, .string a1] w fun e w' => e = .returned (.tuple #[.string r1, .string r2, .bool r3]) ∧ Drawn0 w w' := by
 have H : ((stringslite_Cut.f a0 a1).bind fun bt120 => (some (bt120.1, bt120.2.1, bt120.2.2))) = some (r1, r2, r3) := h
 clear h
 obtain ⟨⟨t120, t121, t122⟩, A3, H⟩ := bo H
 replace H : (some (t120, t121, t122)) = some (r1, r2, r3) := H
 simp only [Option.some.injEq, Prod.mk.injEq] at H
 obtain ⟨rfl, rfl, rfl⟩ := H
 go_enter Tryz.func172, Tryz.ntmps172
 go_wp2_with (first | ((with_reducible refine gate_callee (f := 193) rfl ?_); refine gl 9 Tryz.func193 #[.string a0, .string a1] ?_; (with_reducible refine (stringslite_Cut.calls a0 a1 t120 t121 t122 _ A3.out).mono ?_); rintro e w' ⟨rfl, ⟨nd, rfl⟩⟩; refine ⟨_, rfl, ?_⟩))
 go_ret3
 exact ⟨by first | rfl | (simp; done) | (simp [*]; done), by repeat (first | exact Drawn0.refl _ | apply Drawn0.step)⟩
end Go.Proofs.YtjfcmkddeglghaaGreatDoor.G
end
