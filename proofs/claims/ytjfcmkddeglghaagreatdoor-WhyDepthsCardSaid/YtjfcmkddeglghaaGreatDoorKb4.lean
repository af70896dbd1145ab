/- For every list of needs WhyDepths returns true, as the card says: how far a node is away is how long its chain is; what the root needs is 1 away; no need leads more than one further. Condition: when the call begins, utf8.acceptRanges and utf8.first hold what Go's own text lays. (part 4 of its proof) -/
import Derived.BigQuiet
import Derived.Deep.LoopGhost
import Derived.Deep.QuietTactic
import Derived.Deep.WholeRow
import Derived.IntWalk
import Derived.Laws.ResultCell
import Derived.Laws.Runes
import Derived.Laws.Strings3
import Derived.Laws.StructEq
import Derived.Lib.Bytealg
import Derived.Lib.DecodeN
import Derived.Lib.Hide
import Derived.Lib.IndexBytes
import Derived.Lib.MapLaws
import Derived.Lib.OthersKept
import Derived.Lib.Strings
import Derived.Lib.Walk
import Derived.Maps.Own
import Derived.Maps.RangeRun
import Derived.Shelf.Abstract
import Derived.Shelf.Strings.IndexAnyAll
import Derived.WalkMore
import Derived.Test.YtjfcmkddeglghaaGreatDoorKb1
import Derived.Test.YtjfcmkddeglghaaGreatDoorKb2
import Derived.Test.YtjfcmkddeglghaaGreatDoorKb3
section
namespace Go.Proofs.YtjfcmkddeglghaaGreatDoor.G
open Go.RowKit Go.Lib Go.Proofs.YtjfcmkddeglghaaGreatDoorW.PrintWords Go.Proofs.YtjfcmkddeglghaaGreatDoorW.PrintLast
set_option linter.unusedVariables false
set_option linter.unusedSimpArgs false
def mayTab (l : List Int) : Array Value := l.foldl (fun c x => if 0 ≤ x ∧ x < 10 then c.setIfInBounds x.toNat (.bool true) else c) (Array.replicate 10 (.bool false))
theorem mayTab_snoc (l : List Int) (x : Int) : mayTab (l ++ [x]) = if 0 ≤ x ∧ x < 10 then (mayTab l).setIfInBounds x.toNat (.bool true) else mayTab l := by
  unfold mayTab; rw [List.foldl_append]; rfl
theorem mayFold (l : List Int) : ∀ c : Array Value, c.size = 10 → (l.foldl (fun c x => if 0 ≤ x ∧ x < 10 then c.setIfInBounds x.toNat (.bool true) else c) c).size = 10 ∧
    ∀ j b, j < 10 → c[j]? = some (.bool b) → (l.foldl (fun c x => if 0 ≤ x ∧ x < 10 then c.setIfInBounds x.toNat (.bool true) else c) c)[j]? = some (.bool (b || l.contains (j : Int))) := by
  induction l with
  | nil => intro c h; exact ⟨h, fun j b hj hb => by simpa using hb⟩
  | cons x l ih =>
    intro c h
    simp only [List.foldl_cons]
    by_cases hx : 0 ≤ x ∧ x < 10
    · rw [if_pos hx]
      obtain ⟨h1, h2⟩ := ih (c.setIfInBounds x.toNat (.bool true)) (by rw [Array.size_setIfInBounds]; exact h)
      refine ⟨h1, fun j b hj hb => ?_⟩
      by_cases e : x.toNat = j
      · have e' : x = (j : Int) := by omega
        rw [h2 j true hj (by rw [Array.getElem?_setIfInBounds, if_pos e, if_pos (by omega)])]
        simp [e']
      · rw [h2 j b hj (by rw [Array.getElem?_setIfInBounds, if_neg e]; exact hb)]
        have : ¬ (j : Int) = x := by omega
        simp [this]
    · rw [if_neg hx]
      obtain ⟨h1, h2⟩ := ih c h
      refine ⟨h1, fun j b hj hb => ?_⟩
      rw [h2 j b hj hb]
      have : ¬ (j : Int) = x := by omega
      simp [this]
theorem mayTab_at (l : List Int) (j : Nat) (hj : j < 10) : (mayTab l)[j]? = some (.bool (l.contains (j : Int))) := by
  have := (mayFold l (Array.replicate 10 (.bool false)) (by simp)).2 j false hj (by simp [hj])
  simpa [mayTab] using this
def octAll (s : List UInt8) (of : List Int) : Bool := s.all fun c => of.contains ((octClass c : Nat) : Int)
def octet_All.f (a0 : ByteArray) (l1 : List Int) : Option Bool := if a0.size ≤ 9223372036854775807 then some (octAll a0.data.toList l1) else none
theorem heap_setCell_at {w : World} {B j : Nat} {cs : Array Value} {t : TypeId} {fr : Nat × Nat} (h : w.heap[B]? = some (.cells cs t fr)) (v : Value) : (w.setCell ⟨B, j, none⟩ v).heap[B]? = some (.cells (cs.setIfInBounds j v) t fr) := by
  obtain ⟨hlt, hk⟩ := Array.getElem?_eq_some_iff.1 h
  show (w.heap.modify B _)[B]? = _
  rw [Array.getElem?_eq_getElem (by rw [Array.size_modify]; exact hlt), Array.getElem_modify_self, hk]
  rfl
set_option maxHeartbeats 8000000 in
set_option maxRecDepth 1000000 in
theorem octet_All.calls (a0 : ByteArray) (A1 : Option Addr) (c1 : Nat) (l1 : List Int) (r : Bool) (w : World) (hr1 : Kd.C (Kd.int .i64) w A1 l1.length l1) (hc1 : l1.length ≤ c1) (h : octet_All.f a0 l1 = some r) :
    Calls Tryz.prog 194 #[.string a0, .slice A1 l1.length c1] w fun e w' => e = .returned (.bool r) ∧ Below w.heap.size w w' := by
  have HR1 := Aside0.mk hr1
  unfold octet_All.f at h
  split at h
  case isFalse => cases h
  rename_i hsz
  obtain rfl := Option.some.inj h
  clear h hr1
  have hll : l1.length ≤ 9223372036854775807 := HR1.out.2.1
  go_enter Tryz.func194, Tryz.ntmps194
  go_wp2_with (go_at_call 204; refine (octet_classes.calls _).mono ?_; rintro e w' ⟨rfl, rfl⟩)
  have hsc := run_storeCells_new (P := Tryz.prog) (w.alloc (.cells (octTab (octDone 10)) 220)) 220 Tryz.zeroCells220 (octTab (octDone 10)) (by rw [octTab_size]; exact octInfo) (by rw [octTab_size]; kernel_rfl) (octTab_one _)
  have Hsc := Lib.hid hsc
  clear hsc
  simp only [World.size_alloc] at *
  rw [Hsc.out]
  simp only [Result.andThen]
  rw [Oper.upon_skip]
  go_wp2
  go_loopg [13] l1.length (fun g s13 wx => ∃ k : Nat, k + g = l1.length ∧ s13 = .int .i64 k ∧ wx.heap[w.heap.size + 1]? = some (.cells (octTab (octDone 10)) 220 (0, 0)) ∧ wx.heap[w.heap.size + 1 + 1]? = some (.cells (mayTab (l1.take k)) 222 (0, 0)) ∧ Aside0 (Below w.heap.size w wx))
  case atStart =>
    refine ⟨0, by omega, rfl, ?_, ?_, ⟨?_⟩⟩
    · refine (Below.heap_alloc _ _ (w.heap.size + 1) (by rw [World.size_alloc, World.size_alloc]; omega)).trans ?_
      have h1 := heap_alloc_new (w.alloc (.cells (octTab (octDone 10)) 220)) (.cells (octTab (octDone 10)) 220)
      rw [World.size_alloc] at h1
      exact h1
    · have h1 := fun o => heap_alloc_new ((w.alloc (.cells (octTab (octDone 10)) 220)).alloc (.cells (octTab (octDone 10)) 220)) o
      simp only [World.size_alloc] at h1
      exact h1 _
    · exact (((Below.refl _ _).alloc (Nat.le_refl _) _).alloc (by simp) _).alloc (by simp; omega) _
  case round =>
    obtain ⟨k, hkg, rfl, hB1, hB2, hb⟩ := hrel
    cases gk with
    | zero =>
      obtain rfl : k = l1.length := by omega
      rw [List.take_length] at hB2
      have hlt : ¬ ((l1.length : Int) < (l1.length : Int)) := by omega
      go_wp2
      go_loopg [28] a0.size (fun g s28 wx => ∃ i : Nat, i + g = a0.size ∧ s28 = .int .i64 i ∧ Aside0 (octAll (a0.data.toList.take i) l1 = true) ∧ wx.heap[w.heap.size + 1]? = some (.cells (octTab (octDone 10)) 220 (0, 0)) ∧ wx.heap[w.heap.size + 1 + 1]? = some (.cells (mayTab l1) 222 (0, 0)) ∧ Aside0 (Below w.heap.size w wx))
      case atStart => exact ⟨0, by omega, rfl, ⟨rfl⟩, hB1, hB2, hb⟩
      case round =>
        clear hB1 hB2 hb hlt hkg
        obtain ⟨i, hig, rfl, hal, hB1, hB2, hb⟩ := hrel
        cases gk with
        | zero =>
          obtain rfl : i = a0.size := by omega
          have hlt : ¬ ((a0.size : Int) < (a0.size : Int)) := by omega
          have hal2 := hal.out
          rw [List.take_of_length_le (by rw [← Lib.size_eq]; exact Nat.le_refl _)] at hal2
          have HAL := Aside0.mk hal2
          clear hal2 hal hB1 hB2
          go_wp2
          go_ret
          exact ⟨by rw [HAL.out]; rfl, hb.out⟩
        | succ g2 =>
          have hlt : (i : Int) < (a0.size : Int) := by omega
          have hi : i < a0.size := by omega
          obtain ⟨x, hx⟩ : ∃ x : UInt8, a0[i]'hi = x := ⟨_, rfl⟩
          have hx256 : (x.toNat : Int) < 256 := by have := UInt8.toNat_lt x; omega
          have hcl : ((octClass x : Nat) : Int) < 10 := by have := octClass_lt x; omega
          have Hx : Aside0 (a0.data.toList[i]? = some x) := ⟨by rw [← hx]; exact Lib.data_getElem? _ i hi⟩
          have hc1' : wr.cell? ⟨w.heap.size + 1, x.toNat, none⟩ = some (.int .i64 ((octClass x : Nat) : Int)) := by
            rw [cell_of_row _ _ _ _ _ _ hB1]; exact octTab_at x
          have hc2' : wr.cell? ⟨w.heap.size + 1 + 1, octClass x, none⟩ = some (.bool (l1.contains ((octClass x : Nat) : Int))) := by
            rw [cell_of_row _ _ _ _ _ _ hB2]; exact mayTab_at _ _ (octClass_lt x)
          have HB1 := Aside0.mk hB1
          have HB2 := Aside0.mk hB2
          clear hB1 hB2
          cases hcon : l1.contains ((octClass x : Nat) : Int) with
          | true =>
            rw [hcon] at hc2'
            have Hcon := Aside0.mk hcon
            clear hcon
            go_wp2
            go_roundg g2
            case measure => omega
            case rel => exact ⟨i + 1, by omega, by first | rfl | simp, ⟨by unfold octAll; rw [List.take_add_one, Hx.out, List.all_append]; simp only [Option.toList, List.all_cons, List.all_nil, Hcon.out, Bool.and_true]; exact hal.out⟩, HB1.out, HB2.out, hb⟩
          | false =>
            rw [hcon] at hc2'
            have Hcon := Aside0.mk hcon
            clear hcon
            go_wp2
            go_ret
            refine ⟨?_, hb.out⟩
            have : octAll a0.data.toList l1 = false := by
              unfold octAll
              rw [List.all_eq_false]
              exact ⟨x, List.mem_of_getElem? Hx.out, by rw [Hcon.out]; simp⟩
            rw [this]; rfl
    | succ g =>
      have hk : (k : Int) < (l1.length : Int) := by omega
      obtain ⟨ad, e1, hx⟩ := Kd.at_int (Kd.C_below HR1.out hb.out) (k : Int) (by omega) hk
      cases e1
      rw [Int.toNat_natCast] at hx
      by_cases hx1 : 0 ≤ rd l1 (k : Int) ∧ rd l1 (k : Int) < 10
      · obtain ⟨hx0, hx10⟩ := hx1
        have hcell : wr.cell? ⟨w.heap.size + 1 + 1, (rd l1 (k : Int)).toNat, none⟩ = some (.bool ((l1.take k).contains (((rd l1 (k : Int)).toNat : Nat) : Int))) := by
          rw [cell_of_row _ _ _ _ _ _ hB2]; exact mayTab_at _ _ (by omega)
        have hfro : wr.frozen? ⟨w.heap.size + 1 + 1, (rd l1 (k : Int)).toNat, none⟩ = false := by
          simp [World.frozen?, hB2]
        have HB1 := Aside0.mk hB1
        have HB2 := Aside0.mk hB2
        have HX := Aside0.mk (And.intro hx0 hx10)
        have hr1 : decide (0 ≤ rd l1 (k : Int)) = true := decide_eq_true hx0
        have hr2 : decide (rd l1 (k : Int) < 10) = true := decide_eq_true hx10
        clear hB1 hB2
        go_wp2
        go_roundg g
        case measure => omega
        case rel =>
          refine ⟨k + 1, by omega, by first | rfl | simp, ?_, ?_, ⟨hb.out.setCell (by simp; omega) _⟩⟩
          · rw [Below.heap_setCell _ _ _ _ (by simp)]; exact HB1.out
          · have hg : l1[k]? = some (rd l1 (k : Int)) := by unfold rd; rw [Int.toNat_natCast, List.getD_eq_getElem?_getD, List.getElem?_eq_getElem (by omega)]; rfl
            rw [heap_setCell_at HB2.out, List.take_add_one, hg]
            simp only [Option.toList]
            rw [mayTab_snoc, if_pos HX.out]
      · have HX := Aside0.mk hx1
        have HB1 := Aside0.mk hB1
        have HB2 := Aside0.mk hB2
        clear hB1 hB2
        by_cases hx0 : 0 ≤ rd l1 (k : Int)
        · have hr1 : decide (0 ≤ rd l1 (k : Int)) = true := decide_eq_true hx0
          have hr2 : decide (rd l1 (k : Int) < 10) = false := decide_eq_false (by omega)
          clear hx1
          go_wp2
          go_roundg g
          case measure => omega
          case rel =>
            refine ⟨k + 1, by omega, by first | rfl | simp, HB1.out, ?_, hb⟩
            have hg : l1[k]? = some (rd l1 (k : Int)) := by unfold rd; rw [Int.toNat_natCast, List.getD_eq_getElem?_getD, List.getElem?_eq_getElem (by omega)]; rfl
            rw [HB2.out, List.take_add_one, hg]
            simp only [Option.toList]
            rw [mayTab_snoc, if_neg HX.out]
        · have hr1 : decide (0 ≤ rd l1 (k : Int)) = false := decide_eq_false hx0
          clear hx1
          go_wp2
          go_roundg g
          case measure => omega
          case rel =>
            refine ⟨k + 1, by omega, by first | rfl | simp, HB1.out, ?_, hb⟩
            have hg : l1[k]? = some (rd l1 (k : Int)) := by unfold rd; rw [Int.toNat_natCast, List.getD_eq_getElem?_getD, List.getElem?_eq_getElem (by omega)]; rfl
            rw [HB2.out, List.take_add_one, hg]
            simp only [Option.toList]
            rw [mayTab_snoc, if_neg HX.out]
end Go.Proofs.YtjfcmkddeglghaaGreatDoor.G
end
section
namespace Go.Proofs.YtjfcmkddeglghaaGreatDoor.G
open Go.RowKit Go.Proofs.YtjfcmkddeglghaaGreatDoorW.PrintWords Go.Proofs.YtjfcmkddeglghaaGreatDoorW.PrintLast Go.Proofs.YtjfcmkddeglghaaGreatDoorW.PrintMore
attribute [local go_sem] max2_int min2_int max_two min_two max_three min_three max_four min_four
set_option linter.unusedVariables false
set_option linter.unusedSimpArgs false
def number_May.f (a0 : ByteArray) : Option (Bool) := if a0.toList = ([] : List UInt8) then (some false) else ((octet_All.f a0 (([1] : List Int))).bind fun t126 => (if t126 = true then (if 0 < (a0.size : Int) then (if (bt a0 0) = 48 then (some ((a0.size : Int) == 1)) else (some true)) else (none)) else (some false)))
set_option maxHeartbeats 8000000 in
set_option maxRecDepth 100000 in
theorem number_May.calls (a0 : ByteArray) (r : Bool) (w : World) (h : number_May.f a0 = some r) :
  Calls Tryz.prog 173 #[.string a0] w fun e w' => e = .returned (.bool r) ∧ Below w.heap.size w w' := by
 have HB := Aside0.mk (Below.refl w.heap.size w)
 have H : (if a0.toList = ([] : List UInt8) then (some false) else ((octet_All.f a0 (([1] : List Int))).bind fun t126 => (if t126 = true then (if 0 < (a0.size : Int) then (if (bt a0 0) = 48 then (some ((a0.size : Int) == 1)) else (some true)) else (none)) else (some false)))) = some r := h
 clear h
 by_cases c2 : a0.toList = ([] : List UInt8)
 ·rw [if_pos c2] at H
  have c2b0 := beq_iff_eq.mpr c2
  (try (have c2b0i := c2b0; simp only [show ∀ l_ : List UInt8, (l_ == []) = l_.isEmpty from fun l_ => by cases l_ <;> rfl] at c2b0i))
  have c2b1 := bne_eq_false_iff_eq.mpr c2
  clear c2
  obtain rfl := Option.some.inj H
  go_enter Tryz.func173, Tryz.ntmps173
  go_wp2
  go_ret
  exact ⟨by first | rfl | (simp [errW_none, errW_some] <;> rfl) | (simp [*, errW_none, errW_some] <;> rfl), ba HB⟩
 ·rw [if_neg c2] at H
  have c2b0 := beq_eq_false_iff_ne.mpr c2
  (try (have c2b0i := c2b0; simp only [show ∀ l_ : List UInt8, (l_ == []) = l_.isEmpty from fun l_ => by cases l_ <;> rfl] at c2b0i))
  have c2b1 := bne_iff_ne.mpr c2
  obtain ⟨y123, hy123⟩ : ∃ y_ : List Int, y_ = (([1] : List Int)) := ⟨_, rfl⟩
  replace H : ((octet_All.f a0 y123).bind fun t126 => (if t126 = true then (if 0 < (a0.size : Int) then (if (bt a0 0) = 48 then (some ((a0.size : Int) == 1)) else (some true)) else (none)) else (some false))) = some r := by first | (rw [hy123]; with_reducible exact H) | (have H2_ := (Option.bind_some _ _).symm.trans H; rw [hy123]; with_reducible exact H2_) | (have H2_ := (Option.bind_some _ _).symm.trans H; with_reducible exact H2_) | with_reducible exact H | (rw [hy123]; exact H) | exact H
  have Ny123 := Aside0.mk hy123
  clear hy123
  obtain ⟨t126, A3, H⟩ := bo H
  by_cases c4 : t126 = true
  ·subst c4
   replace H := it H
   by_cases c5 : 0 < (a0.size : Int)
   ·rw [if_pos c5] at H
    have c5b0 : decide (0 < (a0.size : Int)) = true := decide_eq_true c5
    have c5b1 : decide (0 < a0.size) = true := decide_eq_true (by omega)
    clear c5
    by_cases c7 : (bt a0 0) = 48
    ·rw [if_pos c7] at H
     have c7b0 := beq_iff_eq.mpr c7
     have c7b1 := bne_eq_false_iff_eq.mpr c7
     clear c7
     obtain rfl := Option.some.inj H
     go_enter Tryz.func173, Tryz.ntmps173
     go_wp2_with (first | ((with_reducible refine gate_dst (N := 7) rfl ?_); (try (refine gate_guard (by rfl) ?_; dsimp only)); refine Kd.R_lit (Kd.int .i64) _ 3 ?hg (N := 7) ?hd (xs := ([1] : List Int)) (inner := [.int .i64 1]) (ok := fun _ => True) (okp := fun _ => True) ?hr ?hp (fun _ hk => hk) trivial (Below.refl _ _) (Nat.le_refl _) (by simp) ?_; (case hd => rfl); (case hg => rfl); (case hr => first | (go_simp; done) | (go_simp; rfl)); (case hp => exact (Reps.one (show Kd.M (Kd.int .i64) _ _ _ 1 [.int .i64 1] from rfl) (Reps.none _ _))); intro v124 w8 ho9 hb hg_ hnew_; clear hg_ hnew_; (first | rw [← Ny123.out] at ho9 | (simp only [Int.reduceToNat] at ho9; rw [← Ny123.out] at ho9)); have n0_ := Aside0.mk (Kd.R_lower ho9 (bz HB)); have n1_ := bs HB hb; revert n0_ n1_; clear HB; intro HO125 HB; clear hb ho9; obtain ⟨Ao10, co10, eo10⟩ := Kd.R_slice HO125.out; subst eo10) | (go_at_call 194; (with_reducible refine (octet_All.calls a0 _ _ y123 true _ ?side1 ?side2 A3.out).mono ?_); (case side1 => repeat (first | exact (Kd.R_reads' HO125.out).2.2 | (with_reducible refine Kd.C_alloc ?_ _) | (with_reducible refine Kd.C_drewN ?_ _) | (with_reducible refine Kd.C_drew ?_))); (case side2 => exact (Kd.R_reads' HO125.out).2.1); rintro e w11 ⟨rfl, hb⟩; have n0_ := rb HO125 hb; have n1_ := bs HB hb; revert n0_ n1_; clear HO125 HB; intro HO125 HB; (try clear hb); have p6 : 0 ≤ (0 : Int) := (by omega); have q6 : 0 < a0.size := (by have : (0 : Int) < (a0.size : Int) := of_decide_eq_true (by first | (with_reducible assumption) | assumption); omega); have hx6 : ∀ h : 0 < a0.size, ((a0[0]'h).toNat : Int) = bt a0 0 := bt_at a0 0; clear p6; have qi6 : (0 < (a0.size : Int)) = True := eq_true (of_decide_eq_true (by first | (with_reducible assumption) | assumption)); replace q6 := eq_true q6))
     go_ret
     exact ⟨by first | rfl | (simp [errW_none, errW_some] <;> rfl) | (simp [*, errW_none, errW_some] <;> rfl), ba HB⟩
    ·rw [if_neg c7] at H
     have c7b0 := beq_eq_false_iff_ne.mpr c7
     have c7b1 := bne_iff_ne.mpr c7
     obtain rfl := Option.some.inj H
     go_enter Tryz.func173, Tryz.ntmps173
     go_wp2_with (first | ((with_reducible refine gate_dst (N := 7) rfl ?_); (try (refine gate_guard (by rfl) ?_; dsimp only)); refine Kd.R_lit (Kd.int .i64) _ 3 ?hg (N := 7) ?hd (xs := ([1] : List Int)) (inner := [.int .i64 1]) (ok := fun _ => True) (okp := fun _ => True) ?hr ?hp (fun _ hk => hk) trivial (Below.refl _ _) (Nat.le_refl _) (by simp) ?_; (case hd => rfl); (case hg => rfl); (case hr => first | (go_simp; done) | (go_simp; rfl)); (case hp => exact (Reps.one (show Kd.M (Kd.int .i64) _ _ _ 1 [.int .i64 1] from rfl) (Reps.none _ _))); intro v124 w12 ho13 hb hg_ hnew_; clear hg_ hnew_; (first | rw [← Ny123.out] at ho13 | (simp only [Int.reduceToNat] at ho13; rw [← Ny123.out] at ho13)); have n0_ := Aside0.mk (Kd.R_lower ho13 (bz HB)); have n1_ := bs HB hb; revert n0_ n1_; clear HB; intro HO125 HB; clear hb ho13; obtain ⟨Ao14, co14, eo14⟩ := Kd.R_slice HO125.out; subst eo14) | (go_at_call 194; (with_reducible refine (octet_All.calls a0 _ _ y123 true _ ?side1 ?side2 A3.out).mono ?_); (case side1 => repeat (first | exact (Kd.R_reads' HO125.out).2.2 | (with_reducible refine Kd.C_alloc ?_ _) | (with_reducible refine Kd.C_drewN ?_ _) | (with_reducible refine Kd.C_drew ?_))); (case side2 => exact (Kd.R_reads' HO125.out).2.1); rintro e w15 ⟨rfl, hb⟩; have n0_ := rb HO125 hb; have n1_ := bs HB hb; revert n0_ n1_; clear HO125 HB; intro HO125 HB; (try clear hb); have p6 : 0 ≤ (0 : Int) := (by omega); have q6 : 0 < a0.size := (by have : (0 : Int) < (a0.size : Int) := of_decide_eq_true (by first | (with_reducible assumption) | assumption); omega); have hx6 : ∀ h : 0 < a0.size, ((a0[0]'h).toNat : Int) = bt a0 0 := bt_at a0 0; clear p6; have qi6 : (0 < (a0.size : Int)) = True := eq_true (of_decide_eq_true (by first | (with_reducible assumption) | assumption)); replace q6 := eq_true q6))
     go_ret
     exact ⟨by first | rfl | (simp [errW_none, errW_some] <;> rfl) | (simp [*, errW_none, errW_some] <;> rfl), ba HB⟩
   ·rw [if_neg c5] at H
    exact absurd H (by simp)
  ·replace c4 := Bool.eq_false_iff.mpr c4
   subst c4
   replace H := jf H
   obtain rfl := Option.some.inj H
   go_enter Tryz.func173, Tryz.ntmps173
   go_wp2_with (first | ((with_reducible refine gate_dst (N := 7) rfl ?_); (try (refine gate_guard (by rfl) ?_; dsimp only)); refine Kd.R_lit (Kd.int .i64) _ 3 ?hg (N := 7) ?hd (xs := ([1] : List Int)) (inner := [.int .i64 1]) (ok := fun _ => True) (okp := fun _ => True) ?hr ?hp (fun _ hk => hk) trivial (Below.refl _ _) (Nat.le_refl _) (by simp) ?_; (case hd => rfl); (case hg => rfl); (case hr => first | (go_simp; done) | (go_simp; rfl)); (case hp => exact (Reps.one (show Kd.M (Kd.int .i64) _ _ _ 1 [.int .i64 1] from rfl) (Reps.none _ _))); intro v124 w16 ho17 hb hg_ hnew_; clear hg_ hnew_; (first | rw [← Ny123.out] at ho17 | (simp only [Int.reduceToNat] at ho17; rw [← Ny123.out] at ho17)); have n0_ := Aside0.mk (Kd.R_lower ho17 (bz HB)); have n1_ := bs HB hb; revert n0_ n1_; clear HB; intro HO125 HB; clear hb ho17; obtain ⟨Ao18, co18, eo18⟩ := Kd.R_slice HO125.out; subst eo18) | (go_at_call 194; (with_reducible refine (octet_All.calls a0 _ _ y123 false _ ?side1 ?side2 A3.out).mono ?_); (case side1 => repeat (first | exact (Kd.R_reads' HO125.out).2.2 | (with_reducible refine Kd.C_alloc ?_ _) | (with_reducible refine Kd.C_drewN ?_ _) | (with_reducible refine Kd.C_drew ?_))); (case side2 => exact (Kd.R_reads' HO125.out).2.1); rintro e w19 ⟨rfl, hb⟩; have n0_ := rb HO125 hb; have n1_ := bs HB hb; revert n0_ n1_; clear HO125 HB; intro HO125 HB; (try clear hb)))
   go_ret
   exact ⟨by first | rfl | (simp [errW_none, errW_some] <;> rfl) | (simp [*, errW_none, errW_some] <;> rfl), ba HB⟩
end Go.Proofs.YtjfcmkddeglghaaGreatDoor.G
end
section
namespace Go.Proofs.YtjfcmkddeglghaaGreatDoor.G
open Go.RowKit Gw Go.Proofs.YtjfcmkddeglghaaGreatDoorW.PrintWords Go.Proofs.YtjfcmkddeglghaaGreatDoorW.PrintLast
set_option linter.unusedVariables false
set_option linter.unusedSimpArgs false
theorem strings_IndexByte.exact (a0 : ByteArray) (a1 : Int) (w : World) :
    Calls Tryz.prog 223 #[.string a0, .int .u8 a1] w fun e w' => e = .returned (.int .i64 (Lib.indexByte a0.data.toList a1.toNat.toUInt8)) ∧ w' = w := by
  go_enter Tryz.func223, Tryz.ntmps223
  go_wp2_with (go_at_call 210; refine (stringslite_IndexByte.exact _ _ _ _ rfl).mono ?_; rintro e w' ⟨rfl, hw⟩; rw [hw])
  go_ret
  exact ⟨rfl, rfl⟩
set_option maxHeartbeats 2000000 in
set_option maxRecDepth 1000000 in
theorem strings_IndexRune_low (s : ByteArray) (r : Int) (w : World) (h0 : 0 ≤ r) (h1 : r < 128) :
    Calls Tryz.prog 214 #[.string s, .int .i32 r] w fun e w' => e = .returned (.int .i64 (Lib.indexByte s.data.toList r.toNat.toUInt8)) ∧ w' = w := by
  go_enter Tryz.func214, Tryz.ntmps214
  go_wp2_with (go_at_call 223; refine (strings_IndexByte.exact _ _ _).mono ?_; rintro e w' ⟨rfl, hw⟩; rw [hw])
  go_ret
  exact ⟨rfl, rfl⟩
def SomeB (e : Ending) : Prop := ∃ b : Bool, e = .returned (.bool b)
theorem utf8_ValidRune.exact (r : Int) (w : World) :
    Calls Tryz.prog 224 #[.int .i32 r] w fun e w' => SomeB e ∧ w' = w := by
  go_enter Tryz.func224, Tryz.ntmps224
  go_wp2
  all_goals (go_ret; exact ⟨⟨_, rfl⟩, rfl⟩)
theorem encode_tail (r : Int) (h : 128 ≤ r) : ∃ (n : Nat) (b : UInt8), (Utf8.encode r).size = n + 1 ∧ (n = 1 ∨ n = 2 ∨ n = 3) ∧ (Utf8.encode r).data.toList[n]? = some b ∧ 128 ≤ b.toNat := by
  have hm : ∀ x : Nat, 128 ≤ (UInt8.ofNat (0x80 + x % 64)).toNat := by intro x; rw [UInt8.toNat_ofNat']; omega
  have hc : 128 ≤ (if Utf8.valid r then r.toNat else Utf8.runeError) := by split <;> (try unfold Utf8.runeError) <;> omega
  unfold Utf8.encode
  simp only
  generalize (if Utf8.valid r then r.toNat else Utf8.runeError) = c at hc ⊢
  rw [if_neg (by omega)]
  split
  · exact ⟨1, _, rfl, by omega, rfl, hm _⟩
  · split
    · exact ⟨2, _, rfl, by omega, rfl, hm _⟩
    · exact ⟨3, _, rfl, by omega, rfl, hm _⟩
theorem byte_mem {s : ByteArray} {n : Nat} (hn : n < s.size) : s[n]'hn ∈ s.data.toList := Array.getElem_mem_toList (xs := s.data) hn
theorem byte_at {s : ByteArray} {n : Nat} {b : UInt8} (h : s.data.toList[n]? = some b) (hn : n < s.size) : s[n]'hn = b := by
  obtain ⟨h1, h2⟩ := List.getElem?_eq_some_iff.1 h
  rw [← h2]
  rfl
set_option maxHeartbeats 8000000 in
set_option maxRecDepth 1000000 in
theorem strings_IndexRune_high (s : ByteArray) (r : Int) (w : World) (h0 : 128 ≤ r) (hr : r ≠ 65533) (h3 : s.size = 3) (hs : ∀ x ∈ s.data.toList, x.toNat < 128) :
    Calls Tryz.prog 214 #[.string s, .int .i32 r] w fun e w' => e = .returned (.int .i64 (-1)) ∧ Below w.heap.size w w' := by
  have c1 : decide (r < 128) = false := decide_eq_false (by omega)
  have c2 : (r == 65533) = false := beq_eq_false_iff_ne.2 hr
  obtain ⟨n, b, hn, hn3, hb, hb128⟩ := encode_tail r h0
  obtain ⟨rs, hrs⟩ : ∃ rs, Utf8.encode r = rs := ⟨_, rfl⟩
  have hcv : ∀ w : World, (convert 21 9 (.int .i32 r)).run Tryz.prog w = .ok (.string rs) w := by
    intro w
    rw [run_convert_int_string w _ _ _ _ (by kernel_rfl) (by kernel_rfl), hrs]
  rw [hrs] at hn hb
  clear hrs
  have hnr : n < rs.size := by omega
  have hbn := byte_at hb hnr
  go_enter Tryz.func214, Tryz.ntmps214
  go_wp2_with (go_at_call 224; refine (utf8_ValidRune.exact _ _).mono ?_; rintro e w' ⟨⟨bv, rfl⟩, hw⟩; rw [hw])
  · go_ret
    exact ⟨rfl, Below.refl _ _⟩
  · go_step3
    go_wp2
    go_loopg [9] 0 (fun g s9 wx => s9 = .int .i64 n ∧ wx = w)
    case atStart => exact ⟨rfl, rfl⟩
    case round =>
      obtain ⟨rfl, rfl⟩ := hrel
      by_cases hlt : n < 3
      · have hns : n < s.size := by omega
        obtain ⟨x, hx⟩ : ∃ x : UInt8, s[n]'hns = x := ⟨_, rfl⟩
        have hxm : x.toNat < 128 := hs x (by rw [← hx]; exact byte_mem _)
        have hne : ((x.toNat : Int) != (b.toNat : Int)) = true := by rw [bne_iff_ne]; omega
        have hltz : (n : Int) < (s.size : Int) := by omega
        have hltr : (n : Int) < (rs.size : Int) := by omega
        have hix : Lib.indexByte (s.extract (n + 1) s.size).data.toList b = -1 := by
          refine (index_none b _ fun hm => ?_).1
          have := hs b (mem_extract hm)
          omega
        have hback : ((b.toNat : Int)).toNat.toUInt8 = b := by simp
        have hw1 : IntKind.i64.wrap ((n : Int) + 1) = (n : Int) + 1 := IntWalk.i64_in _ (by omega)
        have hp1 : (0 : Int) ≤ (n : Int) + 1 := by omega
        have ht1 : ((n : Int) + 1).toNat = n + 1 := by omega
        have hle1 : (n : Int) + 1 ≤ (s.size : Int) := by omega
        have hI : ∀ w : World, Calls Tryz.prog 223 #[.string (s.extract (n + 1) s.size), .int .u8 (b.toNat : Int)] w fun e w' => e = .returned (.int .i64 (-1)) ∧ ∃ m, w' = w.drewN m := by
          intro w
          refine (strings_IndexByte.exact _ _ _).mono fun e w' h => ⟨?_, 0, ?_⟩
          · rw [h.1, hback, hix]
          · rw [h.2]; rfl
        clear hix hback
        clear hs hb hn hn3 h3 hb128 hxm
        go_wp2
        go_step3
        go_wp2_with fail
        go_quiet (fail)
        go_wp2
        have HB := Aside0.mk (pw_below_drewN (Below.refl wr.heap.size wr) nq)
        generalize wr.drewN nq = w2 at HB ⊢
        go_quiet (first | (go_at_call 223; refine Calls.quiet_of (hI _)))
        go_wp2
        rw [Exit.noGoto_ret]
        go_wp2
        rw [Exit.noGoto_ret]
        go_wp2
        go_ret
        exact ⟨rfl, pw_below_drewN HB.out _⟩
      · have hltz : ¬ ((n : Int) < (s.size : Int)) := by omega
        go_wp2
        go_ret
        exact ⟨rfl, Below.refl _ _⟩
open Go.Lib in
set_option maxHeartbeats 8000000 in
set_option maxRecDepth 1000000 in
theorem strings_IndexRune_bad (s : ByteArray) (w : World) (h3 : s.size ≤ 4294967296) (hs : ∀ x ∈ s.data.toList, x.toNat < 128) :
    Calls Tryz.prog 214 #[.string s, .int .i32 65533] w fun e w' => e = .returned (.int .i64 (-1)) ∧ Below w.heap.size w w' := by
  have HS := Aside0.mk hs
  clear hs
  go_enter Tryz.func214, Tryz.ntmps214
  go_wp2
  go_loopg [5, 6] s.size (fun g _ _ wx => ∃ i : Nat, i + g = s.size ∧ wx.heap[w.heap.size]? = some (.stringIter s i) ∧ Aside0 (Below w.heap.size w wx))
  case atStart => exact ⟨0, by omega, World.iter_heap _ _ _, ⟨(Below.refl _ _).alloc (Nat.le_refl _) _⟩⟩
  case round =>
    obtain ⟨i, hig, hB, hb⟩ := hrel
    cases gk with
    | zero =>
      obtain rfl : i = s.size := by omega
      have hnx := fun ty => run_next_end_at (P := Tryz.prog) wr w.heap.size s s.size ty hB (by omega)
      have HB := Aside0.mk hB
      clear hB
      go_wp2
      go_ret
      exact ⟨rfl, hb.out⟩
    | succ g =>
      have hi : i < s.size := by omega
      obtain ⟨x, hx⟩ : ∃ x : UInt8, s[i]'hi = x := ⟨_, rfl⟩
      have hx128 : x.toNat < 128 := HS.out x (by rw [← hx]; exact byte_mem _)
      have hnx := fun ty => run_next_ascii_at (P := Tryz.prog) wr w.heap.size s i ty hB hi (by rw [hx]; exact hx128)
      rw [hx] at hnx
      have hne : ((x.toNat : Int) == 65533) = false := beq_eq_false_iff_ne.2 (by omega)
      have HB := Aside0.mk hB
      clear hB
      go_wp2
      go_roundg g
      case measure => omega
      case rel => exact ⟨i + 1, by omega, iterAt_heap _ _ _ _ _ HB.out, ⟨below_iterAt hb.out (Nat.le_refl _) _ _⟩⟩
abbrev markL : List UInt8 := [46, 95, 126]
theorem mark_high (c : UInt8) (h : 128 ≤ c.toNat) : markL.contains c = false := by
  have h1 : ¬ c = 46 := by rintro rfl; revert h; decide
  have h2 : ¬ c = 95 := by rintro rfl; revert h; decide
  have h3 : ¬ c = 126 := by rintro rfl; revert h; decide
  simp [h1, h2, h3]
theorem mark_low : ∀ x ∈ (ofL markL).data.toList, x.toNat < 128 := by decide
theorem decode_bytes (s : ByteArray) (i : Nat) (hi : i < s.size) (h : 128 ≤ (s[i]'hi).toNat) :
    128 ≤ (Utf8.decode s i).1 ∧ 1 ≤ (Utf8.decode s i).2 ∧ i + (Utf8.decode s i).2 ≤ s.size ∧ ∀ k x, i ≤ k → k < i + (Utf8.decode s i).2 → s.data.toList[k]? = some x → 128 ≤ x.toNat := by
  have hg : ∀ j x, s.data.toList[j]? = some x → s.get! j = x := by
    intro j x hx
    obtain ⟨h1, h2⟩ := List.getElem?_eq_some_iff.1 hx
    have h1' : j < s.size := by rw [size_data]; exact h1
    show s.data[j]! = x
    rw [getElem!_pos s.data j h1', ← h2]
    rfl
  have h0 : (s.get! i).toNat = (s[i]'hi).toNat := by rw [hg i _ (Lib.data_getElem? s i hi)]
  rw [Lib.decode_at]
  have hk : ∀ k x, s.data.toList[k]? = some x → k < s.size := by
    intro k x hx
    have := (List.getElem?_eq_some_iff.1 hx).1
    rw [size_data]; exact this
  rcases Lib.decodeN_shape (s.size - i) (s.get! i).toNat (s.get! (i + 1)).toNat (s.get! (i + 2)).toNat (s.get! (i + 3)).toNat with ⟨h1, _⟩ | ⟨h1, h2, h3, h4, e⟩ | ⟨h1, h2, h3, h4, h5, h6, e⟩ | ⟨h1, h2, h3, h4, h5, h6, h7, e⟩ | e
  · omega
  all_goals rw [e]
  · refine ⟨h4, by simp, by simp only; omega, fun k x ha hb hx => ?_⟩
    have hb' : k < i + 2 := hb
    rw [← hg k x hx]
    rcases (by omega : k = i ∨ k = i + 1) with rfl | rfl <;> omega
  · refine ⟨by simp only; omega, by simp, by simp only; omega, fun k x ha hb hx => ?_⟩
    have hb' : k < i + 3 := hb
    rw [← hg k x hx]
    rcases (by omega : k = i ∨ k = i + 1 ∨ k = i + 2) with rfl | rfl | rfl <;> omega
  · refine ⟨by simp only; omega, by simp, by simp only; omega, fun k x ha hb hx => ?_⟩
    have hb' : k < i + 4 := hb
    rw [← hg k x hx]
    rcases (by omega : k = i ∨ k = i + 1 ∨ k = i + 2 ∨ k = i + 3) with rfl | rfl | rfl | rfl <;> omega
  · refine ⟨by simp, by simp, by simp only; omega, fun k x ha hb hx => ?_⟩
    have hb' : k < i + 1 := hb
    rw [← hg k x hx]
    obtain rfl : k = i := by omega
    omega
theorem noAny_more {s : ByteArray} {i d : Nat} (h : Lib.NoAny s.data.toList markL i) (hd : ∀ k x, i ≤ k → k < i + d → s.data.toList[k]? = some x → 128 ≤ x.toNat) : Lib.NoAny s.data.toList markL (i + d) := by
  intro j b hj hb
  rcases Nat.lt_or_ge j i with hlt | hge
  · exact h j b hlt hb
  · exact mark_high b (hd j b hge hj hb)
theorem strings_shouldUseASCIISet.exact (n : Int) (w : World) :
    Calls Tryz.prog 215 #[.int .i64 n] w fun e w' => e = .returned (.bool (decide (8 < n))) ∧ w' = w := by
  go_enter Tryz.func215, Tryz.ntmps215
  go_wp2
  go_ret
  exact ⟨rfl, rfl⟩
theorem indexRune_marks (r : Int) (w : World) (h0 : 128 ≤ r) :
    Calls Tryz.prog 214 #[.string (ofL markL), .int .i32 r] w fun e w' => e = .returned (.int .i64 (-1)) ∧ Below w.heap.size w w' := by
  by_cases h : r = 65533
  · subst h; exact strings_IndexRune_bad _ w (by decide) mark_low
  · exact strings_IndexRune_high _ r w h0 h rfl mark_low
open Go.Lib in
set_option maxHeartbeats 8000000 in
set_option maxRecDepth 1000000 in
theorem strings_IndexAny_short (s : ByteArray) (w : World) (h8 : s.size ≤ 8) :
    Calls Tryz.prog 205 #[.string s, .string (ofL markL)] w fun e w' => e = .returned (.int .i64 (Lib.indexAny s.data.toList markL)) ∧ Below w.heap.size w w' := by
  have hlowC : ∀ (x : UInt8) (w : World), x.toNat < 128 → Calls Tryz.prog 214 #[.string (ofL markL), .int .i32 (x.toNat : Int)] w fun e w' => e = .returned (.int .i64 (Lib.indexByte markL x)) ∧ w' = w := by
    intro x w hx
    have hback : ((x.toNat : Int)).toNat.toUInt8 = x := by simp
    refine (strings_IndexRune_low _ _ w (by omega) (by omega)).mono fun e w' h => ⟨?_, h.2⟩
    rw [h.1, hback]
  have hhigh := fun (r : Int) (w : World) (h : 128 ≤ r) => indexRune_marks r w h
  obtain ⟨chars, hch⟩ : ∃ chars, ofL markL = chars := ⟨_, rfl⟩
  rw [hch] at hlowC hhigh ⊢
  have hemp : chars.toList.isEmpty = false := by rw [← hch, toList_data]; rfl
  have hn1 : ((chars.size : Int) == 1) = false := by rw [← hch]; rfl
  have h8z : decide ((8 : Int) < (s.size : Int)) = false := decide_eq_false (by omega)
  clear hch
  go_enter Tryz.func205, Tryz.ntmps205
  go_wp2_with (go_at_call 215; refine (strings_shouldUseASCIISet.exact _ _).mono ?_; rintro e w' ⟨rfl, hw⟩; rw [hw, h8z])
  go_loopg [9, 10] s.size (fun g _ _ wx => ∃ i : Nat, i ≤ s.size ∧ g = s.size - i ∧ wx.heap[w.heap.size]? = some (.stringIter s i) ∧ Aside0 (Lib.NoAny s.data.toList markL i) ∧ Aside0 (Below w.heap.size w wx))
  case atStart => exact ⟨0, by omega, by omega, World.iter_heap _ _ _, ⟨Lib.NoAny.zero _ _⟩, ⟨(Below.refl _ _).alloc (Nat.le_refl _) _⟩⟩
  case round =>
    obtain ⟨i, hig, hg, hB, HN, hb⟩ := hrel
    by_cases hi : i < s.size
    · obtain ⟨x, hx⟩ : ∃ x : UInt8, s[i]'hi = x := ⟨_, rfl⟩
      have Hx : Aside0 (s.data.toList[i]? = some x) := ⟨by rw [← hx]; exact Lib.data_getElem? _ i hi⟩
      by_cases hx128 : x.toNat < 128
      · have hnx := fun ty => run_next_ascii_at (P := Tryz.prog) wr w.heap.size s i ty hB hi (by rw [hx]; exact hx128)
        rw [hx] at hnx
        have HB := Aside0.mk hB
        clear hB
        have hcon := Lib.contains_iff_indexByte markL x
        cases hin : markL.contains x
        · rw [hin] at hcon
          have HI := Aside0.mk hin
          clear hin
          have hlt : ¬ ((0 : Int) ≤ Lib.indexByte markL x) := of_decide_eq_false hcon.symm
          clear hcon
          go_wp2_with (go_at_call 214; refine (hlowC x _ hx128).mono ?_; rintro e w' ⟨rfl, hw⟩; rw [hw])
          go_roundg (s.size - (i + 1))
          case measure => omega
          case rel => exact ⟨i + 1, by omega, by omega, iterAt_heap _ _ _ _ _ HB.out, ⟨HN.out.succ Hx.out HI.out⟩, ⟨below_iterAt hb.out (Nat.le_refl _) _ _⟩⟩
        · rw [hin] at hcon
          have HI := Aside0.mk hin
          clear hin
          have hge : (0 : Int) ≤ Lib.indexByte markL x := of_decide_eq_true hcon.symm
          clear hcon
          go_wp2_with (go_at_call 214; refine (hlowC x _ hx128).mono ?_; rintro e w' ⟨rfl, hw⟩; rw [hw])
          go_ret
          exact ⟨by rw [Lib.indexAny_hit HN.out Hx.out HI.out]; rfl, below_iterAt hb.out (Nat.le_refl _) _ _⟩
      · have hnx := fun ty => run_next_any_at (P := Tryz.prog) wr w.heap.size s i ty hB hi
        have hd := decode_bytes s i hi (by rw [hx]; omega)
        generalize Utf8.decode s i = d at hnx hd
        obtain ⟨hd1, hd2, hd3, hd4⟩ := hd
        have hrI : (128 : Int) ≤ (d.1 : Int) := by omega
        have HD := Aside0.mk hd4
        have HB := Aside0.mk hB
        clear hB hd4
        have hfar : Aside0 (Below w.heap.size w (wr.iterAt w.heap.size s (i + d.2))) := ⟨below_iterAt hb.out (Nat.le_refl _) _ _⟩
        have hit : Aside0 ((wr.iterAt w.heap.size s (i + d.2)).heap[w.heap.size]? = some (.stringIter s (i + d.2))) := ⟨iterAt_heap _ _ _ _ _ HB.out⟩
        go_wp2_with (go_at_call 214; refine (hhigh _ _ hrI).mono ?_; rintro e w' ⟨rfl, hb2⟩)
        go_roundg (s.size - (i + d.2))
        case measure => omega
        case rel => exact ⟨i + d.2, by omega, by omega, (hb2.block _ (Array.getElem?_eq_some_iff.1 hit.out).1).trans hit.out, ⟨noAny_more HN.out HD.out⟩, ⟨below_then hfar.out hfar.out.size hb2⟩⟩
    · obtain rfl : i = s.size := by omega
      have hnx := fun ty => run_next_end_at (P := Tryz.prog) wr w.heap.size s s.size ty hB (by omega)
      have HB := Aside0.mk hB
      clear hB
      go_wp2
      go_ret
      exact ⟨by rw [Lib.indexAny_none (by rw [← Lib.size_eq]; exact HN.out)]; rfl, hb.out⟩
set_option maxRecDepth 1000000 in
theorem strings_IndexAny_marks (s : ByteArray) (w : World) (hs : s.size < 4294967281) :
    Calls Tryz.prog 205 #[.string s, .string (ofL markL)] w fun e w' => e = .returned (.int .i64 (Lib.indexAny s.data.toList markL)) ∧ Below w.heap.size w w' := by
  by_cases h8 : s.size ≤ 8
  · exact strings_IndexAny_short s w h8
  · have h116 : (Tryz.prog.info? 230).map (fun i => (i.zero, i.size)) = some (some (.agg (Array.replicate 256 (.bool false))), 256) := by kernel_rfl
    refine (Any.strings_IndexAny_long Tryz.lays153 (zero_of_info h116).1 (zero_of_info h116).2 s (ofL markL) w (by decide) (by omega) hs (by decide) (fun j b hb => mark_low b (List.mem_of_getElem? hb))).mono ?_
    rintro e w' ⟨h1, h2⟩
    refine ⟨h1, ?_⟩
    rw [h2]
    exact ((Below.refl _ _).alloc (Nat.le_refl _) _).alloc (by simp) _
def strings_ContainsAny.f (a0 a1 : ByteArray) : Option Bool := if a1.data.toList = markL ∧ a0.size < 4294967281 then some (Lib.containsAny a0.data.toList markL) else none
set_option maxHeartbeats 1000000 in
theorem strings_ContainsAny.calls (a0 a1 : ByteArray) (r : Bool) (w : World) (h : strings_ContainsAny.f a0 a1 = some r) :
    Calls Tryz.prog 195 #[.string a0, .string a1] w fun e w' => e = .returned (.bool r) ∧ Below w.heap.size w w' := by
  unfold strings_ContainsAny.f at h
  split at h
  · rename_i hc
    obtain ⟨h1, h2⟩ := hc
    obtain rfl := Option.some.inj h
    obtain rfl : a1 = ofL markL := ext_data h1
    clear h h1
    have hM := fun w => strings_IndexAny_marks a0 w h2
    generalize ofL markL = ch at hM ⊢
    unfold Lib.containsAny
    generalize Lib.indexAny a0.data.toList markL = z at hM ⊢
    go_enter Tryz.func195, Tryz.ntmps195
    go_wp2_with (go_at_call 205; refine (hM _).mono ?_; rintro e w' ⟨rfl, hb⟩)
    go_ret
    exact ⟨rfl, hb⟩
  · cases h
end Go.Proofs.YtjfcmkddeglghaaGreatDoor.G
end
section
namespace Go.Proofs.YtjfcmkddeglghaaGreatDoor.G
open Go.RowKit Go.Proofs.YtjfcmkddeglghaaGreatDoorW.PrintWords Go.Proofs.YtjfcmkddeglghaaGreatDoorW.PrintLast Go.Proofs.YtjfcmkddeglghaaGreatDoorW.PrintMore
attribute [local go_sem] max2_int min2_int max_two min_two max_three min_three max_four min_four
set_option linter.unusedVariables false
set_option linter.unusedSimpArgs false
def version_word.j0 : Nat → ByteArray → Bool → Option (Bool)
 | 0, _, _ => none
 | k + 1, x0, x14 => if x14 = true then (some false) else ((number_May.f x0).bind fun t132 => (if t132 = true then (some true) else ((octet_All.f x0 (([1] : List Int))).bind fun t136 => (some (!t136)))))
def version_word.f (k : Nat) (a0 : ByteArray) : Option (Bool) := if a0.toList = ([] : List UInt8) then (version_word.j0 k a0 true) else ((strings_ContainsAny.f a0 (⟨#[46, 95, 126]⟩ : ByteArray)).bind fun t127 => (if t127 = true then (version_word.j0 k a0 true) else ((octet_All.f a0 (([1, 2, 3] : List Int))).bind fun t131 => (version_word.j0 k a0 (!t131)))))
set_option maxHeartbeats 8000000 in
set_option maxRecDepth 100000 in
theorem version_word.calls (k : Nat) (a0 : ByteArray) (r : Bool) (w : World) (h : version_word.f k a0 = some r) :
  Calls Tryz.prog 174 #[.string a0] w fun e w' => e = .returned (.bool r) ∧ Below w.heap.size w w' := by
 have HB := Aside0.mk (Below.refl w.heap.size w)
 have H : (if a0.toList = ([] : List UInt8) then (version_word.j0 k a0 true) else ((strings_ContainsAny.f a0 (⟨#[46, 95, 126]⟩ : ByteArray)).bind fun t127 => (if t127 = true then (version_word.j0 k a0 true) else ((octet_All.f a0 (([1, 2, 3] : List Int))).bind fun t131 => (version_word.j0 k a0 (!t131)))))) = some r := h
 clear h
 have HC2 := Aside0.mk H
 clear H
 go_enter Tryz.func174, Tryz.ntmps174
 go_upto_region 1 with (fail)
 go_cut [14] (fun v14 wc => ∃ (kq : Nat) (x14_1 : Bool), v14 = .bool x14_1 ∧ Aside0 (version_word.j0 kq a0 x14_1 = some r) ∧ Aside0 (kq ≤ k) ∧ Aside0 (Below w.heap.size w wc))
 case first =>
  have H := HC2.out
  clear HC2
  by_cases c3 : a0.toList = ([] : List UInt8)
  ·rw [if_pos c3] at H
   have c3b0 := beq_iff_eq.mpr c3
   (try (have c3b0i := c3b0; simp only [show ∀ l_ : List UInt8, (l_ == []) = l_.isEmpty from fun l_ => by cases l_ <;> rfl] at c3b0i))
   have c3b1 := bne_eq_false_iff_eq.mpr c3
   clear c3
   (first | rw [c3b0] | (simp only [i64_w, i32_w]; rw [c3b0]) | skip)
   have H' := Aside0.mk H
   clear H
   go_wp2
   go_meet
   case rel => exact ⟨_, (true), (by first | rfl | (simp; done) | (simp [*]; done)), H', ⟨by first | omega | exact Nat.le_refl _⟩, ⟨ba HB⟩⟩
  ·rw [if_neg c3] at H
   have c3b0 := beq_eq_false_iff_ne.mpr c3
   (try (have c3b0i := c3b0; simp only [show ∀ l_ : List UInt8, (l_ == []) = l_.isEmpty from fun l_ => by cases l_ <;> rfl] at c3b0i))
   have c3b1 := bne_iff_ne.mpr c3
   (first | rw [c3b0] | (simp only [i64_w, i32_w]; rw [c3b0]) | skip)
   obtain ⟨t127, A4, H⟩ := bo H
   by_cases c5 : t127 = true
   ·subst c5
    replace H := it H
    have H' := Aside0.mk H
    clear H
    go_wp2_with (first | (go_at_call 195; (with_reducible refine (strings_ContainsAny.calls a0 (⟨#[46, 95, 126]⟩ : ByteArray) true _ A4.out).mono ?_); rintro e w6 ⟨rfl, hb⟩; have n0_ := bs HB hb; revert n0_; clear HB; intro HB; (try clear hb)))
    go_meet
    case rel => exact ⟨_, (true), (by first | rfl | (simp; done) | (simp [*]; done)), H', ⟨by first | omega | exact Nat.le_refl _⟩, ⟨ba HB⟩⟩
   ·replace c5 := Bool.eq_false_iff.mpr c5
    subst c5
    replace H := jf H
    obtain ⟨y128, hy128⟩ : ∃ y_ : List Int, y_ = (([1, 2, 3] : List Int)) := ⟨_, rfl⟩
    replace H : ((octet_All.f a0 y128).bind fun t131 => (version_word.j0 k a0 (!t131))) = some r := by first | (rw [hy128]; with_reducible exact H) | (have H2_ := (Option.bind_some _ _).symm.trans H; rw [hy128]; with_reducible exact H2_) | (have H2_ := (Option.bind_some _ _).symm.trans H; with_reducible exact H2_) | with_reducible exact H | (rw [hy128]; exact H) | exact H
    have Ny128 := Aside0.mk hy128
    clear hy128
    obtain ⟨t131, A7, H⟩ := bo H
    have H' := Aside0.mk H
    clear H
    go_wp2_with (first | (go_at_call 195; (with_reducible refine (strings_ContainsAny.calls a0 (⟨#[46, 95, 126]⟩ : ByteArray) false _ A4.out).mono ?_); rintro e w8 ⟨rfl, hb⟩; have n0_ := bs HB hb; revert n0_; clear HB; intro HB; (try clear hb)) | ((with_reducible refine gate_dst (N := 11) rfl ?_); (try (refine gate_guard (by rfl) ?_; dsimp only)); refine Kd.R_lit (Kd.int .i64) _ 3 ?hg (N := 11) ?hd (xs := ([1, 2, 3] : List Int)) (inner := [.int .i64 1, .int .i64 2, .int .i64 3]) (ok := fun _ => True) (okp := fun _ => True) ?hr ?hp (fun _ hk => hk) trivial (Below.refl _ _) (Nat.le_refl _) (by simp) ?_; (case hd => rfl); (case hg => rfl); (case hr => first | (go_simp; done) | (go_simp; rfl)); (case hp => exact (Reps.one (show Kd.M (Kd.int .i64) _ _ _ 1 [.int .i64 1] from rfl) (Reps.one (show Kd.M (Kd.int .i64) _ _ _ 2 [.int .i64 2] from rfl) (Reps.one (show Kd.M (Kd.int .i64) _ _ _ 3 [.int .i64 3] from rfl) (Reps.none _ _))))); intro v129 w9 ho10 hb hg_ hnew_; clear hg_ hnew_; (first | rw [← Ny128.out] at ho10 | (simp only [Int.reduceToNat] at ho10; rw [← Ny128.out] at ho10)); have n0_ := Aside0.mk (Kd.R_lower ho10 (bz HB)); have n1_ := bs HB hb; revert n0_ n1_; clear HB; intro HO130 HB; clear hb ho10; obtain ⟨Ao11, co11, eo11⟩ := Kd.R_slice HO130.out; subst eo11) | (go_at_call 194; (with_reducible refine (octet_All.calls a0 _ _ y128 t131 _ ?side1 ?side2 A7.out).mono ?_); (case side1 => repeat (first | exact (Kd.R_reads' HO130.out).2.2 | (with_reducible refine Kd.C_alloc ?_ _) | (with_reducible refine Kd.C_drewN ?_ _) | (with_reducible refine Kd.C_drew ?_))); (case side2 => exact (Kd.R_reads' HO130.out).2.1); rintro e w12 ⟨rfl, hb⟩; have n0_ := rb HO130 hb; have n1_ := bs HB hb; revert n0_ n1_; clear HO130 HB; intro HO130 HB; (try clear hb)))
    go_meet
    case rel => exact ⟨_, (!t131), (by first | rfl | (simp; done) | (simp [*]; done)), H', ⟨by first | omega | exact Nat.le_refl _⟩, ⟨ba HB⟩⟩
 case rest =>
  clear HC2
  try clear c1
  try clear p2
  try clear c3
  try clear c3b0
  try clear c3b1
  try clear c5
  obtain ⟨kq, x14_1, rfl, HA, HJ1, HB⟩ := hcut
  cases kq with
  | zero => exact absurd HA.out (by simp [version_word.j0])
  | succ kj1 =>
   have H := HA.out
   clear HA
   simp only [version_word.j0] at H
   by_cases c13 : x14_1 = true
   ·subst c13
    replace H := it H
    obtain rfl := Option.some.inj H
    go_wp2
    go_ret
    exact ⟨by first | rfl | (simp [errW_none, errW_some] <;> rfl) | (simp [*, errW_none, errW_some] <;> rfl), ba HB⟩
   ·replace c13 := Bool.eq_false_iff.mpr c13
    subst c13
    replace H := jf H
    obtain ⟨t132, A14, H⟩ := bo H
    by_cases c15 : t132 = true
    ·subst c15
     replace H := it H
     obtain rfl := Option.some.inj H
     go_wp2_with (first | ((with_reducible refine gate_callee (f := 173) rfl ?_); refine gl 16 Tryz.func173 #[.string a0] ?_; (with_reducible refine (number_May.calls a0 true _ A14.out).mono ?_); rintro e w16 ⟨rfl, hb⟩; refine ⟨_, rfl, ?_⟩; have n0_ := bs HB hb; revert n0_; clear HB; intro HB; (try clear hb)))
     go_ret
     exact ⟨by first | rfl | (simp [errW_none, errW_some] <;> rfl) | (simp [*, errW_none, errW_some] <;> rfl), ba HB⟩
    ·replace c15 := Bool.eq_false_iff.mpr c15
     subst c15
     replace H := jf H
     obtain ⟨y133, hy133⟩ : ∃ y_ : List Int, y_ = (([1] : List Int)) := ⟨_, rfl⟩
     replace H : ((octet_All.f a0 y133).bind fun t136 => (some (!t136))) = some r := by first | (rw [hy133]; with_reducible exact H) | (have H2_ := (Option.bind_some _ _).symm.trans H; rw [hy133]; with_reducible exact H2_) | (have H2_ := (Option.bind_some _ _).symm.trans H; with_reducible exact H2_) | with_reducible exact H | (rw [hy133]; exact H) | exact H
     have Ny133 := Aside0.mk hy133
     clear hy133
     obtain ⟨t136, A17, H⟩ := bo H
     obtain rfl := Option.some.inj H
     go_wp2_with (first | ((with_reducible refine gate_callee (f := 173) rfl ?_); refine gl 16 Tryz.func173 #[.string a0] ?_; (with_reducible refine (number_May.calls a0 false _ A14.out).mono ?_); rintro e w18 ⟨rfl, hb⟩; refine ⟨_, rfl, ?_⟩; have n0_ := bs HB hb; revert n0_; clear HB; intro HB; (try clear hb)) | ((with_reducible refine gate_dst (N := 19) rfl ?_); (try (refine gate_guard (by rfl) ?_; dsimp only)); refine Kd.R_lit (Kd.int .i64) _ 3 ?hg (N := 19) ?hd (xs := ([1] : List Int)) (inner := [.int .i64 1]) (ok := fun _ => True) (okp := fun _ => True) ?hr ?hp (fun _ hk => hk) trivial (Below.refl _ _) (Nat.le_refl _) (by simp) ?_; (case hd => rfl); (case hg => rfl); (case hr => first | (go_simp; done) | (go_simp; rfl)); (case hp => exact (Reps.one (show Kd.M (Kd.int .i64) _ _ _ 1 [.int .i64 1] from rfl) (Reps.none _ _))); intro v134 w19 ho20 hb hg_ hnew_; clear hg_ hnew_; (first | rw [← Ny133.out] at ho20 | (simp only [Int.reduceToNat] at ho20; rw [← Ny133.out] at ho20)); have n0_ := Aside0.mk (Kd.R_lower ho20 (bz HB)); have n1_ := bs HB hb; revert n0_ n1_; clear HB; intro HO135 HB; clear hb ho20; obtain ⟨Ao21, co21, eo21⟩ := Kd.R_slice HO135.out; subst eo21) | (go_at_call 194; (with_reducible refine (octet_All.calls a0 _ _ y133 t136 _ ?side1 ?side2 A17.out).mono ?_); (case side1 => repeat (first | exact (Kd.R_reads' HO135.out).2.2 | (with_reducible refine Kd.C_alloc ?_ _) | (with_reducible refine Kd.C_drewN ?_ _) | (with_reducible refine Kd.C_drew ?_))); (case side2 => exact (Kd.R_reads' HO135.out).2.1); rintro e w22 ⟨rfl, hb⟩; have n0_ := rb HO135 hb; have n1_ := bs HB hb; revert n0_ n1_; clear HO135 HB; intro HO135 HB; (try clear hb)))
     go_ret
     exact ⟨by first | rfl | (simp [errW_none, errW_some] <;> rfl) | (simp [*, errW_none, errW_some] <;> rfl), ba HB⟩
end Go.Proofs.YtjfcmkddeglghaaGreatDoor.G
end
section
namespace Go.Proofs.YtjfcmkddeglghaaGreatDoor.G
open Go.RowKit Go.Proofs.YtjfcmkddeglghaaGreatDoorW.PrintWords Go.Proofs.YtjfcmkddeglghaaGreatDoorW.PrintLast Go.Proofs.YtjfcmkddeglghaaGreatDoorW.PrintMore
attribute [local go_sem] max2_int min2_int max_two min_two max_three min_three max_four min_four
set_option linter.unusedVariables false
set_option linter.unusedSimpArgs false
mutual
def version_Split.j0 : Nat → ByteArray → Bool → List ByteArray → Bool → Option (ByteArray × ByteArray × ByteArray × List ByteArray × Int)
 | 0, _, _, _, _ => none
 | k + 1, x5, x6, x7, x47 => if x47 = true then (some ((⟨#[]⟩ : ByteArray), (⟨#[]⟩ : ByteArray), (⟨#[]⟩ : ByteArray), ([] : List ByteArray), 1)) else (if 0 < (x7.length : Int) then (if 1 < (x7.length : Int) then (if 2 < (x7.length : Int) then (if x6 = true then ((octet_Parts.f x5 46).bind fun t155 => (version_Split.l0 k t155 (t155.length : Int) 0 (rdOf ByteArray.empty x7 0) (rdOf ByteArray.empty x7 1) (rdOf ByteArray.empty x7 2) t155)) else (some (rdOf ByteArray.empty x7 0, rdOf ByteArray.empty x7 1, rdOf ByteArray.empty x7 2, ([] : List ByteArray), 0))) else (none)) else (none)) else (none))
def version_Split.l0 : Nat → List ByteArray → Int → Int → ByteArray → ByteArray → ByteArray → List ByteArray → Option (ByteArray × ByteArray × ByteArray × List ByteArray × Int)
 | 0, _, _, _, _, _, _, _ => none
 | k + 1, x66, x67, x68, x155000, x155001, x155002, x155003 => if x68 < x67 then (if 0 ≤ x68 then (if x68 < (x66.length : Int) then ((version_word.f k (rdOf ByteArray.empty x66 x68)).bind fun t159 => (if t159 = true then (version_Split.l0 k x66 x67 (wrap64 (x68 + 1)) x155000 x155001 x155002 x155003) else (some ((⟨#[]⟩ : ByteArray), (⟨#[]⟩ : ByteArray), (⟨#[]⟩ : ByteArray), ([] : List ByteArray), 1)))) else (none)) else (none)) else (some (x155000, x155001, x155002, x155003, 0))
end
def version_Split.f (k : Nat) (a0 : ByteArray) : Option (ByteArray × ByteArray × ByteArray × List ByteArray × Int) := (strings_HasPrefix.f a0 (⟨#[118]⟩ : ByteArray)).bind fun t138 => (if t138 = true then (if 1 ≤ (a0.size : Int) then ((strings_Cut.f (a0.extract 1 a0.size) (⟨#[45]⟩ : ByteArray)).bind fun bt139 => ((octet_Parts.f bt139.1 46).bind fun t142 => (if (t142.length : Int) = 3 then (if 0 < (t142.length : Int) then ((number_May.f (rdOf ByteArray.empty t142 0)).bind fun t146 => (if t146 = true then (if 1 < (t142.length : Int) then ((number_May.f (rdOf ByteArray.empty t142 1)).bind fun t148 => (if t148 = true then (if 2 < (t142.length : Int) then ((number_May.f (rdOf ByteArray.empty t142 2)).bind fun t150 => (version_Split.j0 k bt139.2.1 bt139.2.2 t142 (!t150))) else (none)) else (version_Split.j0 k bt139.2.1 bt139.2.2 t142 true))) else (none)) else (version_Split.j0 k bt139.2.1 bt139.2.2 t142 true))) else (none)) else (version_Split.j0 k bt139.2.1 bt139.2.2 t142 true)))) else (none)) else (some ((⟨#[]⟩ : ByteArray), (⟨#[]⟩ : ByteArray), (⟨#[]⟩ : ByteArray), ([] : List ByteArray), 1)))
def version_Split.T7 : Bool × List (List Nat × List Nat) := (true, [([], []), ([0], [0]), ([1], [1]), ([], []), ([3], [3]), ([4], [4]), ([], []), ([6], [6]), ([7], [7]), ([2, 5, 8], [2, 5, 8]), ([], []), ([10, 9, 0, 1, 2, 3, 4, 5, 6, 7, 8, 9, 10], [9, 10])])
def version_Split.B7 : List Nat := [0, 1, 3, 0, 8, 24, 0, 64, 192, 511, 0, 2047]
theorem version_Split.tab7 : rtab .any (opsOf Tryz.f150 7) = version_Split.T7 := by kernel_rfl
theorem version_Split.bits7 : waitsOk version_Split.T7.2 version_Split.B7 = true := by kernel_rfl
set_option maxHeartbeats 8000000 in
set_option maxRecDepth 100000 in
theorem version_Split.calls (k : Nat) (a0 : ByteArray) (r1 : ByteArray) (r2 : ByteArray) (r3 : ByteArray) (r4 : List ByteArray) (r5 : Int) (w : World) (h : version_Split.f k a0 = some (r1, r2, r3, r4, r5)) :
  Calls Tryz.prog 150 #[.string a0] w fun e w' => ∃ v3_ : Value, e = .returned (.tuple #[.agg #[.string r1, .string r2, .string r3, v3_], .int .i64 r5]) ∧ Kd.R Kd.string 9 w' w.heap.size (fun _ => True) v3_ r4 ∧ Below w.heap.size w w' := by
 have hu146 := Tryz.underlying146
 have HB := Aside0.mk (Below.refl w.heap.size w)
 have H : ((strings_HasPrefix.f a0 (⟨#[118]⟩ : ByteArray)).bind fun t138 => (if t138 = true then (if 1 ≤ (a0.size : Int) then ((strings_Cut.f (a0.extract 1 a0.size) (⟨#[45]⟩ : ByteArray)).bind fun bt139 => ((octet_Parts.f bt139.1 46).bind fun t142 => (if (t142.length : Int) = 3 then (if 0 < (t142.length : Int) then ((number_May.f (rdOf ByteArray.empty t142 0)).bind fun t146 => (if t146 = true then (if 1 < (t142.length : Int) then ((number_May.f (rdOf ByteArray.empty t142 1)).bind fun t148 => (if t148 = true then (if 2 < (t142.length : Int) then ((number_May.f (rdOf ByteArray.empty t142 2)).bind fun t150 => (version_Split.j0 k bt139.2.1 bt139.2.2 t142 (!t150))) else (none)) else (version_Split.j0 k bt139.2.1 bt139.2.2 t142 true))) else (none)) else (version_Split.j0 k bt139.2.1 bt139.2.2 t142 true))) else (none)) else (version_Split.j0 k bt139.2.1 bt139.2.2 t142 true)))) else (none)) else (some ((⟨#[]⟩ : ByteArray), (⟨#[]⟩ : ByteArray), (⟨#[]⟩ : ByteArray), ([] : List ByteArray), 1)))) = some (r1, r2, r3, r4, r5) := h
 clear h
 obtain ⟨t138, A2, H⟩ := bo H
 by_cases c3 : t138 = true
 ·subst c3
  replace H := it H
  by_cases c4 : 1 ≤ (a0.size : Int)
  ·rw [if_pos c4] at H
   have c4b0 := eq_true c4
   have c4b1 : decide (1 ≤ (a0.size : Int)) = true := decide_eq_true c4
   clear c4
   obtain ⟨⟨t139, t140, t141⟩, A5, H⟩ := bo H
   replace H : ((octet_Parts.f t139 46).bind fun t142 => (if (t142.length : Int) = 3 then (if 0 < (t142.length : Int) then ((number_May.f (rdOf ByteArray.empty t142 0)).bind fun t146 => (if t146 = true then (if 1 < (t142.length : Int) then ((number_May.f (rdOf ByteArray.empty t142 1)).bind fun t148 => (if t148 = true then (if 2 < (t142.length : Int) then ((number_May.f (rdOf ByteArray.empty t142 2)).bind fun t150 => (version_Split.j0 k t140 t141 t142 (!t150))) else (none)) else (version_Split.j0 k t140 t141 t142 true))) else (none)) else (version_Split.j0 k t140 t141 t142 true))) else (none)) else (version_Split.j0 k t140 t141 t142 true))) = some (r1, r2, r3, r4, r5) := H
   obtain ⟨t142, A6, H⟩ := bo H
   have HC7 := Aside0.mk H
   clear H
   go_enter Tryz.func150, Tryz.ntmps150
   go_upto_region 5 with (first | ((with_reducible refine gate_dst (N := 2) rfl ?_); refine box_event ?hg (N := 2) ?hd (cs := #[.string (⟨#[]⟩ : ByteArray), .string (⟨#[]⟩ : ByteArray), .string (⟨#[]⟩ : ByteArray), .slice none 0 0]) (t := 146) ?hr ?_; (case hd => rfl); (case hg => rfl); (case hr => first | (go_simp; done) | (go_simp; rfl)); intro gb137 hg w8 hbox hb; have n0_ := bs HB hb; have n1_ := Aside0.mk (hbox); have n2_ := gz hg HB; have n3_ := gz hg HB; revert n0_ n1_ n2_ n3_; clear HB; intro HB BK137 GW137 GE137; clear hb hbox hg) | ((with_reducible refine gate_callee (f := 171) rfl ?_); refine gl 12 Tryz.func171 #[.string a0, .string (⟨#[118]⟩ : ByteArray)] ?_; (with_reducible refine (strings_HasPrefix.calls a0 (⟨#[118]⟩ : ByteArray) true _ A2.out).mono ?_); rintro e w' ⟨rfl, ⟨nd, rfl⟩⟩; refine ⟨_, rfl, ?_⟩) | ((with_reducible refine gate_callee (f := 172) rfl ?_); refine gl 18 Tryz.func172 #[.string (a0.extract 1 a0.size), .string (⟨#[45]⟩ : ByteArray)] ?_; (with_reducible refine (strings_Cut.calls (a0.extract 1 a0.size) (⟨#[45]⟩ : ByteArray) t139 t140 t141 _ A5.out).mono ?_); rintro e w' ⟨rfl, ⟨nd, rfl⟩⟩; refine ⟨_, rfl, ?_⟩) | ((with_reducible refine gate_callee (f := 160) rfl ?_); refine gl 23 Tryz.func160 #[.string t139, .int .u8 46] ?_; (with_reducible refine (octet_Parts.calls t139 46 t142 _ A6.out).mono ?_); rintro e w9 ⟨v143, rfl, ho0, hb⟩; refine ⟨_, rfl, ?_⟩; have n0_ := Aside0.mk (Kd.R_lower ho0 (bz HB)); have n1_ := bb BK137 hb; have n2_ := bs HB hb; revert n0_ n1_ n2_; clear BK137 HB; intro HO144 BK137 HB; (try clear hb); (try clear ho0)))
   (try simp only [Act.put, List.setIfInBounds_toArray, List.set_cons_zero, List.set_cons_succ])
   go_cut [47] (fun v47 wc => ∃ (kq : Nat) (x47_6 : Bool), v47 = .bool x47_6 ∧ Aside0 (version_Split.j0 kq t140 t141 t142 x47_6 = some (r1, r2, r3, r4, r5)) ∧ Aside0 (kq ≤ k) ∧ Aside0 (Kd.R Kd.string 9 wc w.heap.size (fun _ => True) v143 t142) ∧ Aside0 (wc.heap[gb137]? = some (.cells #[.string (⟨#[]⟩ : ByteArray), .string (⟨#[]⟩ : ByteArray), .string (⟨#[]⟩ : ByteArray), (.slice none 0 0)] 146 (0, 0))) ∧ Aside0 (Below w.heap.size w wc))
   case first =>
    have H := HC7.out
    clear HC7
    by_cases c10 : (t142.length : Int) = 3
    ·rw [if_pos c10] at H
     have c10b0 := beq_iff_eq.mpr c10
     have c10b1 := bne_eq_false_iff_eq.mpr c10
     clear c10
     (first | rw [c10b0] | (simp only [i64_w, i32_w]; rw [c10b0]) | skip)
     by_cases c11 : 0 < (t142.length : Int)
     ·rw [if_pos c11] at H
      have c11b0 : decide (0 < (t142.length : Int)) = true := decide_eq_true c11
      have c11b1 : decide (0 < t142.length) = true := decide_eq_true (by omega)
      clear c11
      obtain ⟨t146, A12, H⟩ := bo H
      by_cases c13 : t146 = true
      ·subst c13
       replace H := it H
       by_cases c14 : 1 < (t142.length : Int)
       ·rw [if_pos c14] at H
        have c14b0 : decide (1 < (t142.length : Int)) = true := decide_eq_true c14
        have c14b1 : decide (1 < t142.length) = true := decide_eq_true (by omega)
        clear c14
        obtain ⟨t148, A15, H⟩ := bo H
        by_cases c16 : t148 = true
        ·subst c16
         replace H := it H
         by_cases c17 : 2 < (t142.length : Int)
         ·rw [if_pos c17] at H
          have c17b0 : decide (2 < (t142.length : Int)) = true := decide_eq_true c17
          have c17b1 : decide (2 < t142.length) = true := decide_eq_true (by omega)
          clear c17
          obtain ⟨t150, A18, H⟩ := bo H
          have H' := Aside0.mk H
          clear H
          obtain ⟨Ao19, co19, eo19⟩ := Kd.R_slice HO144.out
          subst eo19
          have p145 : 0 ≤ (0 : Int) := (by omega)
          have q145 : 0 < (t142.length : Int) := of_decide_eq_true (by first | (with_reducible assumption) | assumption)
          obtain ⟨ad145, e145, hx145_0⟩ := Kd.at_string (Kd.R_reads' HO144.out).2.2 0 p145 q145
          cases e145
          have qi145 : (0 < t142.length) = True := eq_true (by omega)
          (try rw [show ((0 : Int)).toNat = 0 from rfl] at hx145_0)
          (try rw [Addr.add_zero'] at hx145_0)
          replace p145 := eq_true p145
          replace q145 := eq_true q145
          go_wp2_with (first | (go_at_call 173; (with_reducible refine (number_May.calls (rdOf ByteArray.empty t142 0) true _ A12.out).mono ?_); rintro e w20 ⟨rfl, hb⟩; have n0_ := rb HO144 hb; have n1_ := bb BK137 hb; have n2_ := bs HB hb; revert n0_ n1_ n2_; clear HO144 BK137 HB; intro HO144 BK137 HB; (try clear hb); have p147 : 0 ≤ (1 : Int) := (by omega); have q147 : 1 < (t142.length : Int) := of_decide_eq_true (by first | (with_reducible assumption) | assumption); obtain ⟨ad147, e147, hx147_0⟩ := Kd.at_string (Kd.R_reads' HO144.out).2.2 1 p147 q147; obtain rfl : ad145 = ad147 := (by injection e147); (try simp only [show (1 : Int).toNat = 1 from rfl, Nat.reduceMul, Nat.reduceEqDiff, Go.Addr.add, ↓reduceIte] at hx147_0); have qi147 : (1 < t142.length) = True := eq_true (by omega); (try rw [show ((1 : Int)).toNat = 1 from rfl] at hx147_0); replace p147 := eq_true p147; replace q147 := eq_true q147) | (go_at_call 173; (with_reducible refine (number_May.calls (rdOf ByteArray.empty t142 1) true _ A15.out).mono ?_); rintro e w21 ⟨rfl, hb⟩; have n0_ := rb HO144 hb; have n1_ := bb BK137 hb; have n2_ := bs HB hb; revert n0_ n1_ n2_; clear HO144 BK137 HB; intro HO144 BK137 HB; (try clear hb); have p149 : 0 ≤ (2 : Int) := (by omega); have q149 : 2 < (t142.length : Int) := of_decide_eq_true (by first | (with_reducible assumption) | assumption); obtain ⟨ad149, e149, hx149_0⟩ := Kd.at_string (Kd.R_reads' HO144.out).2.2 2 p149 q149; obtain rfl : ad145 = ad149 := (by injection e149); (try simp only [show (2 : Int).toNat = 2 from rfl, Nat.reduceMul, Nat.reduceEqDiff, Go.Addr.add, ↓reduceIte] at hx149_0); have qi149 : (2 < t142.length) = True := eq_true (by omega); (try rw [show ((2 : Int)).toNat = 2 from rfl] at hx149_0); replace p149 := eq_true p149; replace q149 := eq_true q149) | (go_at_call 173; (with_reducible refine (number_May.calls (rdOf ByteArray.empty t142 2) t150 _ A18.out).mono ?_); rintro e w22 ⟨rfl, hb⟩; have n0_ := rb HO144 hb; have n1_ := bb BK137 hb; have n2_ := bs HB hb; revert n0_ n1_ n2_; clear HO144 BK137 HB; intro HO144 BK137 HB; (try clear hb)))
          go_meet
          case rel => exact ⟨_, (!t150), (by first | rfl | (simp; done) | (simp [*]; done)), H', ⟨by first | omega | exact Nat.le_refl _⟩, ⟨ra HO144⟩, ⟨by (with_reducible repeat (first | refine blk_drewN ?_ _ | refine blk_drew ?_ | refine blk_alloc ?_ _)); exact BK137.out⟩, ⟨ba HB⟩⟩
         ·rw [if_neg c17] at H
          exact absurd H (by simp)
        ·replace c16 := Bool.eq_false_iff.mpr c16
         subst c16
         replace H := jf H
         have H' := Aside0.mk H
         clear H
         obtain ⟨Ao23, co23, eo23⟩ := Kd.R_slice HO144.out
         subst eo23
         have p145 : 0 ≤ (0 : Int) := (by omega)
         have q145 : 0 < (t142.length : Int) := of_decide_eq_true (by first | (with_reducible assumption) | assumption)
         obtain ⟨ad145, e145, hx145_0⟩ := Kd.at_string (Kd.R_reads' HO144.out).2.2 0 p145 q145
         cases e145
         have qi145 : (0 < t142.length) = True := eq_true (by omega)
         (try rw [show ((0 : Int)).toNat = 0 from rfl] at hx145_0)
         (try rw [Addr.add_zero'] at hx145_0)
         replace p145 := eq_true p145
         replace q145 := eq_true q145
         go_wp2_with (first | (go_at_call 173; (with_reducible refine (number_May.calls (rdOf ByteArray.empty t142 0) true _ A12.out).mono ?_); rintro e w24 ⟨rfl, hb⟩; have n0_ := rb HO144 hb; have n1_ := bb BK137 hb; have n2_ := bs HB hb; revert n0_ n1_ n2_; clear HO144 BK137 HB; intro HO144 BK137 HB; (try clear hb); have p147 : 0 ≤ (1 : Int) := (by omega); have q147 : 1 < (t142.length : Int) := of_decide_eq_true (by first | (with_reducible assumption) | assumption); obtain ⟨ad147, e147, hx147_0⟩ := Kd.at_string (Kd.R_reads' HO144.out).2.2 1 p147 q147; obtain rfl : ad145 = ad147 := (by injection e147); (try simp only [show (1 : Int).toNat = 1 from rfl, Nat.reduceMul, Nat.reduceEqDiff, Go.Addr.add, ↓reduceIte] at hx147_0); have qi147 : (1 < t142.length) = True := eq_true (by omega); (try rw [show ((1 : Int)).toNat = 1 from rfl] at hx147_0); replace p147 := eq_true p147; replace q147 := eq_true q147) | (go_at_call 173; (with_reducible refine (number_May.calls (rdOf ByteArray.empty t142 1) false _ A15.out).mono ?_); rintro e w25 ⟨rfl, hb⟩; have n0_ := rb HO144 hb; have n1_ := bb BK137 hb; have n2_ := bs HB hb; revert n0_ n1_ n2_; clear HO144 BK137 HB; intro HO144 BK137 HB; (try clear hb)))
         go_meet
         case rel => exact ⟨_, (true), (by first | rfl | (simp; done) | (simp [*]; done)), H', ⟨by first | omega | exact Nat.le_refl _⟩, ⟨ra HO144⟩, ⟨by (with_reducible repeat (first | refine blk_drewN ?_ _ | refine blk_drew ?_ | refine blk_alloc ?_ _)); exact BK137.out⟩, ⟨ba HB⟩⟩
       ·rw [if_neg c14] at H
        exact absurd H (by simp)
      ·replace c13 := Bool.eq_false_iff.mpr c13
       subst c13
       replace H := jf H
       have H' := Aside0.mk H
       clear H
       obtain ⟨Ao26, co26, eo26⟩ := Kd.R_slice HO144.out
       subst eo26
       have p145 : 0 ≤ (0 : Int) := (by omega)
       have q145 : 0 < (t142.length : Int) := of_decide_eq_true (by first | (with_reducible assumption) | assumption)
       obtain ⟨ad145, e145, hx145_0⟩ := Kd.at_string (Kd.R_reads' HO144.out).2.2 0 p145 q145
       cases e145
       have qi145 : (0 < t142.length) = True := eq_true (by omega)
       (try rw [show ((0 : Int)).toNat = 0 from rfl] at hx145_0)
       (try rw [Addr.add_zero'] at hx145_0)
       replace p145 := eq_true p145
       replace q145 := eq_true q145
       go_wp2_with (first | (go_at_call 173; (with_reducible refine (number_May.calls (rdOf ByteArray.empty t142 0) false _ A12.out).mono ?_); rintro e w27 ⟨rfl, hb⟩; have n0_ := rb HO144 hb; have n1_ := bb BK137 hb; have n2_ := bs HB hb; revert n0_ n1_ n2_; clear HO144 BK137 HB; intro HO144 BK137 HB; (try clear hb)))
       go_meet
       case rel => exact ⟨_, (true), (by first | rfl | (simp; done) | (simp [*]; done)), H', ⟨by first | omega | exact Nat.le_refl _⟩, ⟨ra HO144⟩, ⟨by (with_reducible repeat (first | refine blk_drewN ?_ _ | refine blk_drew ?_ | refine blk_alloc ?_ _)); exact BK137.out⟩, ⟨ba HB⟩⟩
     ·rw [if_neg c11] at H
      exact absurd H (by simp)
    ·rw [if_neg c10] at H
     have c10b0 := beq_eq_false_iff_ne.mpr c10
     have c10b1 := bne_iff_ne.mpr c10
     (first | rw [c10b0] | (simp only [i64_w, i32_w]; rw [c10b0]) | skip)
     have H' := Aside0.mk H
     clear H
     obtain ⟨Ao28, co28, eo28⟩ := Kd.R_slice HO144.out
     subst eo28
     go_wp2
     go_meet
     case rel => exact ⟨_, (true), (by first | rfl | (simp; done) | (simp [*]; done)), H', ⟨by first | omega | exact Nat.le_refl _⟩, ⟨ra HO144⟩, ⟨by (with_reducible repeat (first | refine blk_drewN ?_ _ | refine blk_drew ?_ | refine blk_alloc ?_ _)); exact BK137.out⟩, ⟨ba HB⟩⟩
   case rest =>
    clear HC7
    try clear c1
    try clear p1
    try clear q1
    try clear hx1
    try clear qi1
    try clear p2
    try clear c3
    try clear c4
    try clear c4b0
    try clear c4b1
    try clear c10
    try clear c10b0
    try clear c10b1
    try clear c11
    try clear c11b0
    try clear c11b1
    try clear c13
    try clear c14
    try clear c14b0
    try clear c14b1
    try clear p14
    try clear q14
    try clear hx14
    try clear qi14
    try clear c15
    try clear c16
    try clear c17
    try clear c17b0
    try clear c17b1
    try clear hx145_0
    try clear hx147_0
    try clear hx149_0
    try clear p145
    try clear p147
    try clear p149
    try clear q145
    try clear q147
    try clear q149
    obtain ⟨kq, x47_6, rfl, HA, HJ6, HO_7, BK137, HB⟩ := hcut
    cases kq with
    | zero => exact absurd HA.out (by simp [version_Split.j0])
    | succ kj6 =>
     have H := HA.out
     clear HA
     simp only [version_Split.j0] at H
     by_cases c29 : x47_6 = true
     ·subst c29
      replace H := it H
      simp only [Option.some.injEq, Prod.mk.injEq] at H
      obtain ⟨rfl, rfl, rfl, rfl, rfl⟩ := H
      have hcz30_0 := bc BK137 0
      have hcz30_1 := bc BK137 1
      have hcz30_2 := bc BK137 2
      have hcz30_3 := bc BK137 3
      have hfz30_0 := bf BK137 0
      have hfz30_1 := bf BK137 1
      have hfz30_2 := bf BK137 2
      have hfz30_3 := bf BK137 3
      go_wp2
      refine bodyPost_ret (results_ct rfl _ _ gb137 146 #[.string (⟨#[]⟩ : ByteArray), .string (⟨#[]⟩ : ByteArray), .string (⟨#[]⟩ : ByteArray), .slice none 0 0] (0, 0) _ rfl (by (with_reducible repeat (first | refine blk_drewN ?_ _ | refine blk_drew ?_ | refine blk_alloc ?_ _)); refine blk_put (cs := #[.string (⟨#[]⟩ : ByteArray), .string (⟨#[]⟩ : ByteArray), .string (⟨#[]⟩ : ByteArray), .slice none 0 0]) ?_ 3 _ rfl; (with_reducible repeat (first | refine blk_drewN ?_ _ | refine blk_drew ?_ | refine blk_alloc ?_ _)); refine blk_put (cs := #[.string (⟨#[]⟩ : ByteArray), .string (⟨#[]⟩ : ByteArray), .string (⟨#[]⟩ : ByteArray), .slice none 0 0]) ?_ 2 _ rfl; (with_reducible repeat (first | refine blk_drewN ?_ _ | refine blk_drew ?_ | refine blk_alloc ?_ _)); refine blk_put (cs := #[.string (⟨#[]⟩ : ByteArray), .string (⟨#[]⟩ : ByteArray), .string (⟨#[]⟩ : ByteArray), .slice none 0 0]) ?_ 1 _ rfl; (with_reducible repeat (first | refine blk_drewN ?_ _ | refine blk_drew ?_ | refine blk_alloc ?_ _)); refine blk_put (cs := #[.string (⟨#[]⟩ : ByteArray), .string (⟨#[]⟩ : ByteArray), .string (⟨#[]⟩ : ByteArray), .slice none 0 0]) ?_ 0 _ rfl; (with_reducible repeat (first | refine blk_drewN ?_ _ | refine blk_drew ?_ | refine blk_alloc ?_ _)); exact BK137.out) Tryz.underlying146 rfl (by kernel_rfl)) rfl ?_
      exact ⟨_, by first | rfl | (simp [errW_none, errW_some] <;> rfl) | (simp [*, errW_none, errW_some] <;> rfl), by first | exact Kd.R_nil _ _ _ _ _ | exact Kd.N_nil _ _ _ _ _ | exact Kd.V_nil _ _ _ _ _ | exact Kd.Q_nil _ _ _ _ _ | exact Kd.S_nil _ _ _ _ _, ba HB⟩
     ·replace c29 := Bool.eq_false_iff.mpr c29
      subst c29
      replace H := jf H
      by_cases c31 : 0 < (t142.length : Int)
      ·rw [if_pos c31] at H
       have c31b0 : decide (0 < (t142.length : Int)) = true := decide_eq_true c31
       have c31b1 : decide (0 < t142.length) = true := decide_eq_true (by omega)
       clear c31
       by_cases c32 : 1 < (t142.length : Int)
       ·rw [if_pos c32] at H
        have c32b0 : decide (1 < (t142.length : Int)) = true := decide_eq_true c32
        have c32b1 : decide (1 < t142.length) = true := decide_eq_true (by omega)
        clear c32
        by_cases c33 : 2 < (t142.length : Int)
        ·rw [if_pos c33] at H
         have c33b0 : decide (2 < (t142.length : Int)) = true := decide_eq_true c33
         have c33b1 : decide (2 < t142.length) = true := decide_eq_true (by omega)
         clear c33
         by_cases c34 : t141 = true
         ·subst c34
          replace H := it H
          obtain ⟨t155, A35, H⟩ := bo H
          have H' := Aside0.mk H
          clear H
          try go_wp2
          have n0_ := Aside0.mk (Kd.R_drew HO_7.out)
          have n1_ := Aside0.mk (blk_drew BK137.out)
          have n2_ := Aside0.mk (below_drew1 HB.out)
          revert n0_ n1_ n2_
          clear HO_7 BK137 HB
          intro HO_7 BK137 HB
          obtain ⟨Ao37, co37, eo37⟩ := Kd.R_slice HO_7.out
          (first | subst eo37 | (injection eo37 with f1_ f2_ f3_; have f4_ := f1_.symm; have f5_ := f3_.symm; clear f1_ f2_ f3_; subst f4_; subst f5_))
          have p151 : 0 ≤ (0 : Int) := (by omega)
          have q151 : 0 < (t142.length : Int) := of_decide_eq_true (by first | (with_reducible assumption) | assumption)
          obtain ⟨ad151, e151, hx151_0⟩ := Kd.at_string (Kd.R_reads' HO_7.out).2.2 0 p151 q151
          cases e151
          have qi151 : (0 < t142.length) = True := eq_true (by omega)
          (try rw [show ((0 : Int)).toNat = 0 from rfl] at hx151_0)
          (try rw [Addr.add_zero'] at hx151_0)
          replace p151 := eq_true p151
          replace q151 := eq_true q151
          have p152 : 0 ≤ (1 : Int) := (by omega)
          have q152 : 1 < (t142.length : Int) := of_decide_eq_true (by first | (with_reducible assumption) | assumption)
          obtain ⟨ad152, e152, hx152_0⟩ := Kd.at_string (Kd.R_reads' HO_7.out).2.2 1 p152 q152
          obtain rfl : ad151 = ad152 := (by injection e152)
          (try simp only [show (1 : Int).toNat = 1 from rfl, Nat.reduceMul, Nat.reduceEqDiff, Go.Addr.add, ↓reduceIte] at hx152_0)
          have qi152 : (1 < t142.length) = True := eq_true (by omega)
          (try rw [show ((1 : Int)).toNat = 1 from rfl] at hx152_0)
          replace p152 := eq_true p152
          replace q152 := eq_true q152
          have p153 : 0 ≤ (2 : Int) := (by omega)
          have q153 : 2 < (t142.length : Int) := of_decide_eq_true (by first | (with_reducible assumption) | assumption)
          obtain ⟨ad153, e153, hx153_0⟩ := Kd.at_string (Kd.R_reads' HO_7.out).2.2 2 p153 q153
          obtain rfl : ad151 = ad153 := (by injection e153)
          (try simp only [show (2 : Int).toNat = 2 from rfl, Nat.reduceMul, Nat.reduceEqDiff, Go.Addr.add, ↓reduceIte] at hx153_0)
          have qi153 : (2 < t142.length) = True := eq_true (by omega)
          (try rw [show ((2 : Int)).toNat = 2 from rfl] at hx153_0)
          replace p153 := eq_true p153
          replace q153 := eq_true q153
          refine start_ (n := 12) (S := fun w' => w'.cell? ad151 = some (.string (rdOf ByteArray.empty t142 0)) ∧ w'.cell? ⟨ad151.block, ad151.off + 1, none⟩ = some (.string (rdOf ByteArray.empty t142 1)) ∧ w'.cell? ⟨ad151.block, ad151.off + 2, none⟩ = some (.string (rdOf ByteArray.empty t142 2))) (ds := []) #[false, false, false, false, false, false, false, false, false, false, false, false] (by kernel_rfl) rfl rfl ⟨hx151_0, hx152_0, hx153_0⟩ (fun hHeld => ?_); refine with_tabW version_Split.tab7 version_Split.bits7 (fun HT_ HW_ => ?_)
          generalize wc.drew = w36 at HO_7 BK137 HB hx151_0 hx152_0 hx153_0 hHeld ⊢
          refine pu 0 49 ?_
          refine pu 1 50 ?_
          refine pu 3 52 ?_
          refine pu 4 53 ?_
          refine pu 6 55 ?_
          refine pu 7 56 ?_
          refine tk 2 51 ?_
          refine tk 5 54 ?_
          refine tk 8 57 ?_
          refine pu 9 58 ?_
          refine oq 10 (some 8) fun K hK => ?_
          refine box_step ?hg (N := 8) ?hd (cs := #[.string (⟨#[]⟩ : ByteArray), .string (⟨#[]⟩ : ByteArray), .string (⟨#[]⟩ : ByteArray), .slice none 0 0]) (t := 146) ?hr ?_; (case hd => rfl); (case hg => rfl); (case hr => first | (go_simp; done) | (go_simp; rfl))
          intro gb154 hg w38 hbox hb
          have HS0_ := (hb.cell (World.block_lt_of_cell? _ _ (hHeld.1))).trans (hHeld.1)
          have HS1_ := (hb.cell (World.block_lt_of_cell? _ _ (hHeld.2.1))).trans (hHeld.2.1)
          have HS2_ := (hb.cell (World.block_lt_of_cell? _ _ (hHeld.2.2))).trans (hHeld.2.2)
          have n0_ := rb HO_7 hb
          have n1_ := bb BK137 hb
          have n2_ := bs HB hb
          have n3_ := Aside0.mk (hbox)
          have n4_ := gz hg HB
          have n5_ := gz hg HB
          have n6_ := Aside0.mk ((by rw [hg]; exact Nat.ne_of_lt (blk_lt (g := gb137) (o := .cells #[.string (⟨#[]⟩ : ByteArray), .string (⟨#[]⟩ : ByteArray), .string (⟨#[]⟩ : ByteArray), .slice none 0 0] 146 (0, 0)) (bk BK137)) : gb137 ≠ gb154))
          have n7_ := Aside0.mk ((by rw [hg]; exact Nat.ne_of_gt (blk_lt (g := gb137) (o := .cells #[.string (⟨#[]⟩ : ByteArray), .string (⟨#[]⟩ : ByteArray), .string (⟨#[]⟩ : ByteArray), .slice none 0 0] 146 (0, 0)) (bk BK137)) : gb154 ≠ gb137))
          revert n0_ n1_ n2_ n3_ n4_ n5_ n6_ n7_
          clear HO_7 BK137 HB
          intro HO_7 BK137 HB BK154 GW154 GE154 NB137_154 NB154_137
          clear hb hbox hg
          refine hK.out _ _ ⟨HS0_, HS1_, HS2_⟩ (fun hHeld => ?_)
          clear hK K
          refine nm ?_
          refine oq 11 none fun K hK => ?_
          have hs39 := bc BK154 0
          have hfs39 := bf BK154 0
          have hns39_0 := NB137_154.out
          have hms39_0 := NB154_137.out
          have hs40 := bc BK154 1
          have hfs40 := bf BK154 1
          have hns40_0 := NB137_154.out
          have hms40_0 := NB154_137.out
          have hs41 := bc BK154 2
          have hfs41 := bf BK154 2
          have hns41_0 := NB137_154.out
          have hms41_0 := NB154_137.out
          have hs42 := bc BK154 3
          have hfs42 := bf BK154 3
          have hns42_0 := NB137_154.out
          have hms42_0 := NB154_137.out
          refine sk ?_
          refine hK.out _ _ ⟨((cell_far (p := ⟨gb154, _, none⟩) (by first | exact Kd.own_blk (Kd.R_ne HO_7.out BK154.out (by decide)) | (rw [add_block]; exact Kd.own_blk (Kd.R_ne HO_7.out BK154.out (by decide))) | (show (Addr.add _ _).block ≠ _; rw [add_block]; exact Kd.own_blk (Kd.R_ne HO_7.out BK154.out (by decide))) | (dsimp only; exact Kd.own_blk (Kd.R_ne HO_7.out BK154.out (by decide)))) _).trans (((cell_far (p := ⟨gb154, _, none⟩) (by first | exact Kd.own_blk (Kd.R_ne HO_7.out BK154.out (by decide)) | (rw [add_block]; exact Kd.own_blk (Kd.R_ne HO_7.out BK154.out (by decide))) | (show (Addr.add _ _).block ≠ _; rw [add_block]; exact Kd.own_blk (Kd.R_ne HO_7.out BK154.out (by decide))) | (dsimp only; exact Kd.own_blk (Kd.R_ne HO_7.out BK154.out (by decide)))) _).trans (((cell_far (p := ⟨gb154, _, none⟩) (by first | exact Kd.own_blk (Kd.R_ne HO_7.out BK154.out (by decide)) | (rw [add_block]; exact Kd.own_blk (Kd.R_ne HO_7.out BK154.out (by decide))) | (show (Addr.add _ _).block ≠ _; rw [add_block]; exact Kd.own_blk (Kd.R_ne HO_7.out BK154.out (by decide))) | (dsimp only; exact Kd.own_blk (Kd.R_ne HO_7.out BK154.out (by decide)))) _).trans (((cell_far (p := ⟨gb154, _, none⟩) (by first | exact Kd.own_blk (Kd.R_ne HO_7.out BK154.out (by decide)) | (rw [add_block]; exact Kd.own_blk (Kd.R_ne HO_7.out BK154.out (by decide))) | (show (Addr.add _ _).block ≠ _; rw [add_block]; exact Kd.own_blk (Kd.R_ne HO_7.out BK154.out (by decide))) | (dsimp only; exact Kd.own_blk (Kd.R_ne HO_7.out BK154.out (by decide)))) _).trans (hHeld.1)))))))), ((cell_far (p := ⟨gb154, _, none⟩) (by first | exact Kd.own_blk (Kd.R_ne HO_7.out BK154.out (by decide)) | (rw [add_block]; exact Kd.own_blk (Kd.R_ne HO_7.out BK154.out (by decide))) | (show (Addr.add _ _).block ≠ _; rw [add_block]; exact Kd.own_blk (Kd.R_ne HO_7.out BK154.out (by decide))) | (dsimp only; exact Kd.own_blk (Kd.R_ne HO_7.out BK154.out (by decide)))) _).trans (((cell_far (p := ⟨gb154, _, none⟩) (by first | exact Kd.own_blk (Kd.R_ne HO_7.out BK154.out (by decide)) | (rw [add_block]; exact Kd.own_blk (Kd.R_ne HO_7.out BK154.out (by decide))) | (show (Addr.add _ _).block ≠ _; rw [add_block]; exact Kd.own_blk (Kd.R_ne HO_7.out BK154.out (by decide))) | (dsimp only; exact Kd.own_blk (Kd.R_ne HO_7.out BK154.out (by decide)))) _).trans (((cell_far (p := ⟨gb154, _, none⟩) (by first | exact Kd.own_blk (Kd.R_ne HO_7.out BK154.out (by decide)) | (rw [add_block]; exact Kd.own_blk (Kd.R_ne HO_7.out BK154.out (by decide))) | (show (Addr.add _ _).block ≠ _; rw [add_block]; exact Kd.own_blk (Kd.R_ne HO_7.out BK154.out (by decide))) | (dsimp only; exact Kd.own_blk (Kd.R_ne HO_7.out BK154.out (by decide)))) _).trans (((cell_far (p := ⟨gb154, _, none⟩) (by first | exact Kd.own_blk (Kd.R_ne HO_7.out BK154.out (by decide)) | (rw [add_block]; exact Kd.own_blk (Kd.R_ne HO_7.out BK154.out (by decide))) | (show (Addr.add _ _).block ≠ _; rw [add_block]; exact Kd.own_blk (Kd.R_ne HO_7.out BK154.out (by decide))) | (dsimp only; exact Kd.own_blk (Kd.R_ne HO_7.out BK154.out (by decide)))) _).trans (hHeld.2.1)))))))), ((cell_far (p := ⟨gb154, _, none⟩) (by first | exact Kd.own_blk (Kd.R_ne HO_7.out BK154.out (by decide)) | (rw [add_block]; exact Kd.own_blk (Kd.R_ne HO_7.out BK154.out (by decide))) | (show (Addr.add _ _).block ≠ _; rw [add_block]; exact Kd.own_blk (Kd.R_ne HO_7.out BK154.out (by decide))) | (dsimp only; exact Kd.own_blk (Kd.R_ne HO_7.out BK154.out (by decide)))) _).trans (((cell_far (p := ⟨gb154, _, none⟩) (by first | exact Kd.own_blk (Kd.R_ne HO_7.out BK154.out (by decide)) | (rw [add_block]; exact Kd.own_blk (Kd.R_ne HO_7.out BK154.out (by decide))) | (show (Addr.add _ _).block ≠ _; rw [add_block]; exact Kd.own_blk (Kd.R_ne HO_7.out BK154.out (by decide))) | (dsimp only; exact Kd.own_blk (Kd.R_ne HO_7.out BK154.out (by decide)))) _).trans (((cell_far (p := ⟨gb154, _, none⟩) (by first | exact Kd.own_blk (Kd.R_ne HO_7.out BK154.out (by decide)) | (rw [add_block]; exact Kd.own_blk (Kd.R_ne HO_7.out BK154.out (by decide))) | (show (Addr.add _ _).block ≠ _; rw [add_block]; exact Kd.own_blk (Kd.R_ne HO_7.out BK154.out (by decide))) | (dsimp only; exact Kd.own_blk (Kd.R_ne HO_7.out BK154.out (by decide)))) _).trans (((cell_far (p := ⟨gb154, _, none⟩) (by first | exact Kd.own_blk (Kd.R_ne HO_7.out BK154.out (by decide)) | (rw [add_block]; exact Kd.own_blk (Kd.R_ne HO_7.out BK154.out (by decide))) | (show (Addr.add _ _).block ≠ _; rw [add_block]; exact Kd.own_blk (Kd.R_ne HO_7.out BK154.out (by decide))) | (dsimp only; exact Kd.own_blk (Kd.R_ne HO_7.out BK154.out (by decide)))) _).trans (hHeld.2.2))))))))⟩ (fun hHeld => ?_)
          clear hK K
          refine dq ?_
          try go_wp2_with (first | ((with_reducible refine gate_callee (f := 160) rfl ?_); refine gl 63 Tryz.func160 #[.string t140, .int .u8 46] ?_; (with_reducible refine (octet_Parts.calls t140 46 t155 _ A35.out).mono ?_); rintro e w43 ⟨v156, rfl, ho0, hb⟩; refine ⟨_, rfl, ?_⟩; have n0_ := Aside0.mk (Kd.R_elder' (by (with_reducible repeat (first | apply Kd.R_alloc | apply Kd.R_drewN | apply Kd.R_drew)); exact (Kd.R_mono (Kd.R_far (p := ⟨gb154, 3, none⟩) (Kd.R_far (p := ⟨gb154, 2, none⟩) (Kd.R_far (p := ⟨gb154, 1, none⟩) (Kd.R_far (p := ⟨gb154, 0, none⟩) (Kd.R_types HO_7.out BK154.out (by decide)) (fun _ hk => hk.2) (.string (rdOf ByteArray.empty t142 0))) (fun _ hk => hk.2) (.string (rdOf ByteArray.empty t142 1))) (fun _ hk => hk.2) (.string (rdOf ByteArray.empty t142 2))) (fun _ hk => hk.2) (.slice none 0 0)) (fun _ h_ => h_.1))) (Kd.R_base ho0) hb); have n1_ := Aside0.mk (Kd.R_lower (Kd.R_new' ho0 (Kd.R_lt (by (with_reducible repeat (first | apply Kd.R_alloc | apply Kd.R_drewN | apply Kd.R_drew)); exact (Kd.R_mono (Kd.R_far (p := ⟨gb154, 3, none⟩) (Kd.R_far (p := ⟨gb154, 2, none⟩) (Kd.R_far (p := ⟨gb154, 1, none⟩) (Kd.R_far (p := ⟨gb154, 0, none⟩) (Kd.R_types HO_7.out BK154.out (by decide)) (fun _ hk => hk.2) (.string (rdOf ByteArray.empty t142 0))) (fun _ hk => hk.2) (.string (rdOf ByteArray.empty t142 1))) (fun _ hk => hk.2) (.string (rdOf ByteArray.empty t142 2))) (fun _ hk => hk.2) (.slice none 0 0)) (fun _ h_ => h_.1))))) (bz HB)); have n2_ := Aside0.mk (blk_below (g := gb137) (o := .cells #[.string (⟨#[]⟩ : ByteArray), .string (⟨#[]⟩ : ByteArray), .string (⟨#[]⟩ : ByteArray), .slice none 0 0] 146 (0, 0)) (by (with_reducible repeat (first | refine blk_drewN ?_ _ | refine blk_drew ?_ | refine blk_alloc ?_ _)); refine blk_far ?_ NB137_154.out _; (with_reducible repeat (first | refine blk_drewN ?_ _ | refine blk_drew ?_ | refine blk_alloc ?_ _)); refine blk_far ?_ NB137_154.out _; (with_reducible repeat (first | refine blk_drewN ?_ _ | refine blk_drew ?_ | refine blk_alloc ?_ _)); refine blk_far ?_ NB137_154.out _; (with_reducible repeat (first | refine blk_drewN ?_ _ | refine blk_drew ?_ | refine blk_alloc ?_ _)); refine blk_far ?_ NB137_154.out _; (with_reducible repeat (first | refine blk_drewN ?_ _ | refine blk_drew ?_ | refine blk_alloc ?_ _)); exact BK137.out) hb); have n3_ := Aside0.mk (blk_below (g := gb154) (o := .cells #[.string (rdOf ByteArray.empty t142 0), .string (rdOf ByteArray.empty t142 1), .string (rdOf ByteArray.empty t142 2), .slice none 0 0] 146 (0, 0)) (by (with_reducible repeat (first | refine blk_drewN ?_ _ | refine blk_drew ?_ | refine blk_alloc ?_ _)); refine blk_put (cs := #[.string (rdOf ByteArray.empty t142 0), .string (rdOf ByteArray.empty t142 1), .string (rdOf ByteArray.empty t142 2), .slice none 0 0]) ?_ 3 _ rfl; (with_reducible repeat (first | refine blk_drewN ?_ _ | refine blk_drew ?_ | refine blk_alloc ?_ _)); refine blk_put (cs := #[.string (rdOf ByteArray.empty t142 0), .string (rdOf ByteArray.empty t142 1), .string (⟨#[]⟩ : ByteArray), .slice none 0 0]) ?_ 2 _ rfl; (with_reducible repeat (first | refine blk_drewN ?_ _ | refine blk_drew ?_ | refine blk_alloc ?_ _)); refine blk_put (cs := #[.string (rdOf ByteArray.empty t142 0), .string (⟨#[]⟩ : ByteArray), .string (⟨#[]⟩ : ByteArray), .slice none 0 0]) ?_ 1 _ rfl; (with_reducible repeat (first | refine blk_drewN ?_ _ | refine blk_drew ?_ | refine blk_alloc ?_ _)); refine blk_put (cs := #[.string (⟨#[]⟩ : ByteArray), .string (⟨#[]⟩ : ByteArray), .string (⟨#[]⟩ : ByteArray), .slice none 0 0]) ?_ 0 _ rfl; (with_reducible repeat (first | refine blk_drewN ?_ _ | refine blk_drew ?_ | refine blk_alloc ?_ _)); exact BK154.out) hb); have n4_ := bs HB hb; revert n0_ n1_ n2_ n3_ n4_; clear HO_7 BK137 BK154 HB; intro HO_7 HO157 BK137 BK154 HB; (try clear hb); (try clear ho0); obtain ⟨Ao44, co44, eo44⟩ := Kd.R_slice HO157.out; subst eo44; have hnb45 := NB154_137.out; have hnc45 := NB137_154.out; have hcz46_0 := bc BK154 0; have hcz46_1 := bc BK154 1; have hcz46_2 := bc BK154 2; have hcz46_3 := bc BK154 3; have hfz46_0 := bf BK154 0; have hfz46_1 := bf BK154 1; have hfz46_2 := bf BK154 2; have hfz46_3 := bf BK154 3))
          go_loopg [68] kj6 (fun kq v68 w' => ∃ (x68_2 : Int) (x138000_2 : ByteArray) (x138001_2 : ByteArray) (x138002_2 : ByteArray), v68 = .int .i64 x68_2 ∧ Aside0 (version_Split.l0 kq t155 (t155.length : Int) x68_2 (rdOf ByteArray.empty t142 0) (rdOf ByteArray.empty t142 1) (rdOf ByteArray.empty t142 2) t155 = some (r1, r2, r3, r4, r5)) ∧ Aside0 (kq ≤ kj6) ∧ Aside0 (Kd.R Kd.string 9 w' w.heap.size (fun _ => True) (.slice Ao44 t155.length co44) t155) ∧ Aside0 (Kd.R Kd.string 9 w' w.heap.size (fun _ => True) (.slice Ao44 t155.length co44) t155) ∧ Aside0 (w'.heap[gb137]? = some (.cells #[.string x138000_2, .string x138001_2, .string x138002_2, (.slice none 0 0)] 146 (0, 0))) ∧ Aside0 (w'.heap[gb154]? = some (.cells #[.string (rdOf ByteArray.empty t142 0), .string (rdOf ByteArray.empty t142 1), .string (rdOf ByteArray.empty t142 2), (.slice Ao44 t155.length co44)] 146 (0, 0))) ∧ Aside0 (Below w.heap.size w w'))
          case atStart => exact ⟨(0), ((⟨#[]⟩ : ByteArray)), ((⟨#[]⟩ : ByteArray)), ((⟨#[]⟩ : ByteArray)), (by first | rfl | (simp; done) | (simp [*]; done)), H', ⟨Nat.le_refl _⟩, ⟨by (with_reducible repeat (first | apply Kd.R_alloc | apply Kd.R_drewN | apply Kd.R_drew)); exact Kd.R_mono (Kd.R_far (p := ⟨gb154, 3, none⟩) (Kd.R_types HO157.out BK154.out (by decide)) (fun _ hk => hk.2) (.slice Ao44 t155.length co44)) (fun _ hk => trivial)⟩, ⟨by (with_reducible repeat (first | apply Kd.R_alloc | apply Kd.R_drewN | apply Kd.R_drew)); exact Kd.R_mono (Kd.R_far (p := ⟨gb154, 3, none⟩) (Kd.R_types HO157.out BK154.out (by decide)) (fun _ hk => hk.2) (.slice Ao44 t155.length co44)) (fun _ hk => trivial)⟩, ⟨by (with_reducible repeat (first | refine blk_drewN ?_ _ | refine blk_drew ?_ | refine blk_alloc ?_ _)); refine blk_far ?_ NB137_154.out _; (with_reducible repeat (first | refine blk_drewN ?_ _ | refine blk_drew ?_ | refine blk_alloc ?_ _)); exact BK137.out⟩, ⟨by (with_reducible repeat (first | refine blk_drewN ?_ _ | refine blk_drew ?_ | refine blk_alloc ?_ _)); refine blk_put (cs := #[.string (rdOf ByteArray.empty t142 0), .string (rdOf ByteArray.empty t142 1), .string (rdOf ByteArray.empty t142 2), .slice none 0 0]) ?_ 3 _ rfl; (with_reducible repeat (first | refine blk_drewN ?_ _ | refine blk_drew ?_ | refine blk_alloc ?_ _)); exact BK154.out⟩, ⟨ba HB⟩⟩
          case round =>
           clear H'
           try clear c1
           try clear p1
           try clear q1
           try clear hx1
           try clear qi1
           try clear c2
           try clear p2
           try clear c3
           try clear c4
           try clear c4b0
           try clear c4b1
           try clear c10
           try clear c10b0
           try clear c10b1
           try clear c11
           try clear c11b0
           try clear c11b1
           try clear c13
           try clear c14
           try clear c14b0
           try clear c14b1
           try clear p14
           try clear q14
           try clear hx14
           try clear qi14
           try clear c15
           try clear p15
           try clear q15
           try clear hx15
           try clear qi15
           try clear c16
           try clear c17
           try clear c17b0
           try clear c17b1
           try clear c29
           try clear c31
           try clear c31b0
           try clear c31b1
           try clear c32
           try clear c32b0
           try clear c32b1
           try clear c33
           try clear c33b0
           try clear c33b1
           try clear c34
           try clear c45
           try clear hcz30_0
           try clear hcz30_1
           try clear hcz30_2
           try clear hcz30_3
           try clear hcz46_0
           try clear hcz46_1
           try clear hcz46_2
           try clear hcz46_3
           try clear hfz30_0
           try clear hfz30_1
           try clear hfz30_2
           try clear hfz30_3
           try clear hfz46_0
           try clear hfz46_1
           try clear hfz46_2
           try clear hfz46_3
           try clear hx145_0
           try clear hx147_0
           try clear hx149_0
           try clear hx151_0
           try clear hx152_0
           try clear hx153_0
           try clear p1
           try clear p14
           try clear p145
           try clear p147
           try clear p149
           try clear p151
           try clear p152
           try clear p153
           try clear p2
           try clear q1
           try clear q14
           try clear q145
           try clear q147
           try clear q149
           try clear q151
           try clear q152
           try clear q153
           obtain ⟨x68_2, x138000_2, x138001_2, x138002_2, rfl, HA, HK2, HO_66, HO_155003, BK137, BK154, HB⟩ := hrel
           cases gk with
           | zero => exact absurd HA.out (by simp [version_Split.l0])
           | succ k2 =>
            have H := HA.out
            clear HA
            simp only [version_Split.l0] at H
            by_cases c47 : x68_2 < (t155.length : Int)
            ·rw [if_pos c47] at H
             have c47b0 : decide (x68_2 < (t155.length : Int)) = true := decide_eq_true c47
             clear c47
             by_cases c48 : 0 ≤ x68_2
             ·rw [if_pos c48] at H
              have c48b0 : decide (0 ≤ x68_2) = true := decide_eq_true c48
              clear c48
              by_cases c49 : x68_2 < (t155.length : Int)
              ·rw [if_pos c49] at H
               have c49b0 : decide (x68_2 < (t155.length : Int)) = true := decide_eq_true c49
               clear c49
               obtain ⟨t159, A50, H⟩ := bo H
               by_cases c51 : t159 = true
               ·subst c51
                replace H := it H
                have H' := Aside0.mk H
                clear H
                have p158 : 0 ≤ (x68_2 : Int) := of_decide_eq_true (by first | (with_reducible assumption) | assumption)
                have q158 : x68_2 < (t155.length : Int) := of_decide_eq_true (by first | (with_reducible assumption) | assumption)
                obtain ⟨ad158, e158, hx158_0⟩ := Kd.at_string (Kd.R_reads' HO_66.out).2.2 x68_2 p158 q158
                cases e158
                replace p158 := eq_true p158
                replace q158 := eq_true q158
                go_wp2_with (first | ((with_reducible refine gate_callee (f := 174) rfl ?_); refine gl 73 Tryz.func174 #[.string (rdOf ByteArray.empty t155 x68_2)] ?_; (with_reducible refine (version_word.calls k2 (rdOf ByteArray.empty t155 x68_2) true _ A50.out).mono ?_); rintro e w52 ⟨rfl, hb⟩; refine ⟨_, rfl, ?_⟩; have n0_ := rb HO_66 hb; have n1_ := rb HO_155003 hb; have n2_ := bb BK137 hb; have n3_ := bb BK154 hb; have n4_ := bs HB hb; revert n0_ n1_ n2_ n3_ n4_; clear HO_66 HO_155003 BK137 BK154 HB; intro HO_66 HO_155003 BK137 BK154 HB; (try clear hb)))
                go_roundg k2
                case measure => have := HJ6.out; have := HK2.out; omega
                case rel => exact ⟨(wrap64 (x68_2 + 1)), (x138000_2), (x138001_2), (x138002_2), (by first | rfl | (simp; done) | (simp [*]; done)), H', ⟨by have := HJ6.out; have := HK2.out; omega⟩, ⟨ra HO_66⟩, ⟨ra HO_155003⟩, ⟨by (with_reducible repeat (first | refine blk_drewN ?_ _ | refine blk_drew ?_ | refine blk_alloc ?_ _)); exact BK137.out⟩, ⟨by (with_reducible repeat (first | refine blk_drewN ?_ _ | refine blk_drew ?_ | refine blk_alloc ?_ _)); exact BK154.out⟩, ⟨ba HB⟩⟩
               ·replace c51 := Bool.eq_false_iff.mpr c51
                subst c51
                replace H := jf H
                simp only [Option.some.injEq, Prod.mk.injEq] at H
                obtain ⟨rfl, rfl, rfl, rfl, rfl⟩ := H
                have p158 : 0 ≤ (x68_2 : Int) := of_decide_eq_true (by first | (with_reducible assumption) | assumption)
                have q158 : x68_2 < (t155.length : Int) := of_decide_eq_true (by first | (with_reducible assumption) | assumption)
                obtain ⟨ad158, e158, hx158_0⟩ := Kd.at_string (Kd.R_reads' HO_66.out).2.2 x68_2 p158 q158
                cases e158
                replace p158 := eq_true p158
                replace q158 := eq_true q158
                go_wp2_with (first | ((with_reducible refine gate_callee (f := 174) rfl ?_); refine gl 73 Tryz.func174 #[.string (rdOf ByteArray.empty t155 x68_2)] ?_; (with_reducible refine (version_word.calls k2 (rdOf ByteArray.empty t155 x68_2) false _ A50.out).mono ?_); rintro e w53 ⟨rfl, hb⟩; refine ⟨_, rfl, ?_⟩; have n0_ := rb HO_66 hb; have n1_ := rb HO_155003 hb; have n2_ := bb BK137 hb; have n3_ := bb BK154 hb; have n4_ := bs HB hb; revert n0_ n1_ n2_ n3_ n4_; clear HO_66 HO_155003 BK137 BK154 HB; intro HO_66 HO_155003 BK137 BK154 HB; (try clear hb); have hnb54 := NB137_154.out; have hnc54 := NB154_137.out; have hcz55_0 := bc BK137 0; have hcz55_1 := bc BK137 1; have hcz55_2 := bc BK137 2; have hcz55_3 := bc BK137 3; have hfz55_0 := bf BK137 0; have hfz55_1 := bf BK137 1; have hfz55_2 := bf BK137 2; have hfz55_3 := bf BK137 3))
                refine bodyPost_ret (results_ct rfl _ _ gb137 146 #[.string (⟨#[]⟩ : ByteArray), .string (⟨#[]⟩ : ByteArray), .string (⟨#[]⟩ : ByteArray), .slice none 0 0] (0, 0) _ rfl (by (with_reducible repeat (first | refine blk_drewN ?_ _ | refine blk_drew ?_ | refine blk_alloc ?_ _)); refine blk_put (cs := #[.string (⟨#[]⟩ : ByteArray), .string (⟨#[]⟩ : ByteArray), .string (⟨#[]⟩ : ByteArray), .slice none 0 0]) ?_ 3 _ rfl; (with_reducible repeat (first | refine blk_drewN ?_ _ | refine blk_drew ?_ | refine blk_alloc ?_ _)); refine blk_put (cs := #[.string (⟨#[]⟩ : ByteArray), .string (⟨#[]⟩ : ByteArray), .string x138002_2, .slice none 0 0]) ?_ 2 _ rfl; (with_reducible repeat (first | refine blk_drewN ?_ _ | refine blk_drew ?_ | refine blk_alloc ?_ _)); refine blk_put (cs := #[.string (⟨#[]⟩ : ByteArray), .string x138001_2, .string x138002_2, .slice none 0 0]) ?_ 1 _ rfl; (with_reducible repeat (first | refine blk_drewN ?_ _ | refine blk_drew ?_ | refine blk_alloc ?_ _)); refine blk_put (cs := #[.string x138000_2, .string x138001_2, .string x138002_2, .slice none 0 0]) ?_ 0 _ rfl; (with_reducible repeat (first | refine blk_drewN ?_ _ | refine blk_drew ?_ | refine blk_alloc ?_ _)); exact BK137.out) Tryz.underlying146 rfl (by kernel_rfl)) rfl ?_
                exact ⟨_, by first | rfl | (simp [errW_none, errW_some] <;> rfl) | (simp [*, errW_none, errW_some] <;> rfl), by first | exact Kd.R_nil _ _ _ _ _ | exact Kd.N_nil _ _ _ _ _ | exact Kd.V_nil _ _ _ _ _ | exact Kd.Q_nil _ _ _ _ _ | exact Kd.S_nil _ _ _ _ _, ba HB⟩
              ·rw [if_neg c49] at H
               exact absurd H (by simp)
             ·rw [if_neg c48] at H
              exact absurd H (by simp)
            ·rw [if_neg c47] at H
             have c47b0 : decide (x68_2 < (t155.length : Int)) = false := decide_eq_false c47
             clear c47
             simp only [Option.some.injEq, Prod.mk.injEq] at H
             obtain ⟨rfl, rfl, rfl, rfl, rfl⟩ := H
             have hnb56 := NB154_137.out
             have hnc56 := NB137_154.out
             have hcz57_0 := bc BK154 0
             have hcz57_1 := bc BK154 1
             have hcz57_2 := bc BK154 2
             have hcz57_3 := bc BK154 3
             have hfz57_0 := bf BK154 0
             have hfz57_1 := bf BK154 1
             have hfz57_2 := bf BK154 2
             have hfz57_3 := bf BK154 3
             have hcz58_0 := bc BK137 0
             have hcz58_1 := bc BK137 1
             have hcz58_2 := bc BK137 2
             have hcz58_3 := bc BK137 3
             have hfz58_0 := bf BK137 0
             have hfz58_1 := bf BK137 1
             have hfz58_2 := bf BK137 2
             have hfz58_3 := bf BK137 3
             go_wp2
             refine bodyPost_ret (results_ct rfl _ _ gb137 146 #[.string (rdOf ByteArray.empty t142 0), .string (rdOf ByteArray.empty t142 1), .string (rdOf ByteArray.empty t142 2), .slice Ao44 t155.length co44] (0, 0) _ rfl (by (with_reducible repeat (first | refine blk_drewN ?_ _ | refine blk_drew ?_ | refine blk_alloc ?_ _)); refine blk_put (cs := #[.string (rdOf ByteArray.empty t142 0), .string (rdOf ByteArray.empty t142 1), .string (rdOf ByteArray.empty t142 2), .slice none 0 0]) ?_ 3 _ rfl; (with_reducible repeat (first | refine blk_drewN ?_ _ | refine blk_drew ?_ | refine blk_alloc ?_ _)); refine blk_put (cs := #[.string (rdOf ByteArray.empty t142 0), .string (rdOf ByteArray.empty t142 1), .string x138002_2, .slice none 0 0]) ?_ 2 _ rfl; (with_reducible repeat (first | refine blk_drewN ?_ _ | refine blk_drew ?_ | refine blk_alloc ?_ _)); refine blk_put (cs := #[.string (rdOf ByteArray.empty t142 0), .string x138001_2, .string x138002_2, .slice none 0 0]) ?_ 1 _ rfl; (with_reducible repeat (first | refine blk_drewN ?_ _ | refine blk_drew ?_ | refine blk_alloc ?_ _)); refine blk_put (cs := #[.string x138000_2, .string x138001_2, .string x138002_2, .slice none 0 0]) ?_ 0 _ rfl; (with_reducible repeat (first | refine blk_drewN ?_ _ | refine blk_drew ?_ | refine blk_alloc ?_ _)); exact BK137.out) Tryz.underlying146 rfl (by kernel_rfl)) rfl ?_
             exact ⟨_, by first | rfl | (simp [errW_none, errW_some] <;> rfl) | (simp [*, errW_none, errW_some] <;> rfl), by (with_reducible repeat (first | apply Kd.R_alloc | apply Kd.R_drewN | apply Kd.R_drew)); exact Kd.R_mono (Kd.R_far (p := ⟨gb137, 3, none⟩) (Kd.R_far (p := ⟨gb137, 2, none⟩) (Kd.R_far (p := ⟨gb137, 1, none⟩) (Kd.R_far (p := ⟨gb137, 0, none⟩) (Kd.R_types HO_155003.out BK137.out (by decide)) (fun _ hk => hk.2) (.string (rdOf ByteArray.empty t142 0))) (fun _ hk => hk.2) (.string (rdOf ByteArray.empty t142 1))) (fun _ hk => hk.2) (.string (rdOf ByteArray.empty t142 2))) (fun _ hk => hk.2) (.slice Ao44 t155.length co44)) (fun _ hk => trivial), ba HB⟩
         ·replace c34 := Bool.eq_false_iff.mpr c34
          subst c34
          replace H := jf H
          simp only [Option.some.injEq, Prod.mk.injEq] at H
          obtain ⟨rfl, rfl, rfl, rfl, rfl⟩ := H
          try go_wp2
          have n0_ := Aside0.mk (Kd.R_drew HO_7.out)
          have n1_ := Aside0.mk (blk_drew BK137.out)
          have n2_ := Aside0.mk (below_drew1 HB.out)
          revert n0_ n1_ n2_
          clear HO_7 BK137 HB
          intro HO_7 BK137 HB
          obtain ⟨Ao60, co60, eo60⟩ := Kd.R_slice HO_7.out
          (first | subst eo60 | (injection eo60 with f1_ f2_ f3_; have f4_ := f1_.symm; have f5_ := f3_.symm; clear f1_ f2_ f3_; subst f4_; subst f5_))
          have p151 : 0 ≤ (0 : Int) := (by omega)
          have q151 : 0 < (t142.length : Int) := of_decide_eq_true (by first | (with_reducible assumption) | assumption)
          obtain ⟨ad151, e151, hx151_0⟩ := Kd.at_string (Kd.R_reads' HO_7.out).2.2 0 p151 q151
          cases e151
          have qi151 : (0 < t142.length) = True := eq_true (by omega)
          (try rw [show ((0 : Int)).toNat = 0 from rfl] at hx151_0)
          (try rw [Addr.add_zero'] at hx151_0)
          replace p151 := eq_true p151
          replace q151 := eq_true q151
          have p152 : 0 ≤ (1 : Int) := (by omega)
          have q152 : 1 < (t142.length : Int) := of_decide_eq_true (by first | (with_reducible assumption) | assumption)
          obtain ⟨ad152, e152, hx152_0⟩ := Kd.at_string (Kd.R_reads' HO_7.out).2.2 1 p152 q152
          obtain rfl : ad151 = ad152 := (by injection e152)
          (try simp only [show (1 : Int).toNat = 1 from rfl, Nat.reduceMul, Nat.reduceEqDiff, Go.Addr.add, ↓reduceIte] at hx152_0)
          have qi152 : (1 < t142.length) = True := eq_true (by omega)
          (try rw [show ((1 : Int)).toNat = 1 from rfl] at hx152_0)
          replace p152 := eq_true p152
          replace q152 := eq_true q152
          have p153 : 0 ≤ (2 : Int) := (by omega)
          have q153 : 2 < (t142.length : Int) := of_decide_eq_true (by first | (with_reducible assumption) | assumption)
          obtain ⟨ad153, e153, hx153_0⟩ := Kd.at_string (Kd.R_reads' HO_7.out).2.2 2 p153 q153
          obtain rfl : ad151 = ad153 := (by injection e153)
          (try simp only [show (2 : Int).toNat = 2 from rfl, Nat.reduceMul, Nat.reduceEqDiff, Go.Addr.add, ↓reduceIte] at hx153_0)
          have qi153 : (2 < t142.length) = True := eq_true (by omega)
          (try rw [show ((2 : Int)).toNat = 2 from rfl] at hx153_0)
          replace p153 := eq_true p153
          replace q153 := eq_true q153
          refine start_ (n := 12) (S := fun w' => w'.cell? ad151 = some (.string (rdOf ByteArray.empty t142 0)) ∧ w'.cell? ⟨ad151.block, ad151.off + 1, none⟩ = some (.string (rdOf ByteArray.empty t142 1)) ∧ w'.cell? ⟨ad151.block, ad151.off + 2, none⟩ = some (.string (rdOf ByteArray.empty t142 2))) (ds := []) #[false, false, false, false, false, false, false, false, false, false, false, false] (by kernel_rfl) rfl rfl ⟨hx151_0, hx152_0, hx153_0⟩ (fun hHeld => ?_); refine with_tabW version_Split.tab7 version_Split.bits7 (fun HT_ HW_ => ?_)
          generalize wc.drew = w59 at HO_7 BK137 HB hx151_0 hx152_0 hx153_0 hHeld ⊢
          refine pu 0 49 ?_
          refine pu 1 50 ?_
          refine pu 3 52 ?_
          refine pu 4 53 ?_
          refine pu 6 55 ?_
          refine pu 7 56 ?_
          refine tk 2 51 ?_
          refine tk 5 54 ?_
          refine tk 8 57 ?_
          refine pu 9 58 ?_
          refine oq 10 (some 8) fun K hK => ?_
          refine box_step ?hg (N := 8) ?hd (cs := #[.string (⟨#[]⟩ : ByteArray), .string (⟨#[]⟩ : ByteArray), .string (⟨#[]⟩ : ByteArray), .slice none 0 0]) (t := 146) ?hr ?_; (case hd => rfl); (case hg => rfl); (case hr => first | (go_simp; done) | (go_simp; rfl))
          intro gb154 hg w61 hbox hb
          have HS0_ := (hb.cell (World.block_lt_of_cell? _ _ (hHeld.1))).trans (hHeld.1)
          have HS1_ := (hb.cell (World.block_lt_of_cell? _ _ (hHeld.2.1))).trans (hHeld.2.1)
          have HS2_ := (hb.cell (World.block_lt_of_cell? _ _ (hHeld.2.2))).trans (hHeld.2.2)
          have n0_ := rb HO_7 hb
          have n1_ := bb BK137 hb
          have n2_ := bs HB hb
          have n3_ := Aside0.mk (hbox)
          have n4_ := gz hg HB
          have n5_ := gz hg HB
          have n6_ := Aside0.mk ((by rw [hg]; exact Nat.ne_of_lt (blk_lt (g := gb137) (o := .cells #[.string (⟨#[]⟩ : ByteArray), .string (⟨#[]⟩ : ByteArray), .string (⟨#[]⟩ : ByteArray), .slice none 0 0] 146 (0, 0)) (bk BK137)) : gb137 ≠ gb154))
          have n7_ := Aside0.mk ((by rw [hg]; exact Nat.ne_of_gt (blk_lt (g := gb137) (o := .cells #[.string (⟨#[]⟩ : ByteArray), .string (⟨#[]⟩ : ByteArray), .string (⟨#[]⟩ : ByteArray), .slice none 0 0] 146 (0, 0)) (bk BK137)) : gb154 ≠ gb137))
          revert n0_ n1_ n2_ n3_ n4_ n5_ n6_ n7_
          clear HO_7 BK137 HB
          intro HO_7 BK137 HB BK154 GW154 GE154 NB137_154 NB154_137
          clear hb hbox hg
          refine hK.out _ _ ⟨HS0_, HS1_, HS2_⟩ (fun hHeld => ?_)
          clear hK K
          refine nm ?_
          refine oq 11 none fun K hK => ?_
          have hs62 := bc BK154 0
          have hfs62 := bf BK154 0
          have hns62_0 := NB137_154.out
          have hms62_0 := NB154_137.out
          have hs63 := bc BK154 1
          have hfs63 := bf BK154 1
          have hns63_0 := NB137_154.out
          have hms63_0 := NB154_137.out
          have hs64 := bc BK154 2
          have hfs64 := bf BK154 2
          have hns64_0 := NB137_154.out
          have hms64_0 := NB154_137.out
          have hs65 := bc BK154 3
          have hfs65 := bf BK154 3
          have hns65_0 := NB137_154.out
          have hms65_0 := NB154_137.out
          refine sk ?_
          refine hK.out _ _ ⟨((cell_far (p := ⟨gb154, _, none⟩) (by first | exact Kd.own_blk (Kd.R_ne HO_7.out BK154.out (by decide)) | (rw [add_block]; exact Kd.own_blk (Kd.R_ne HO_7.out BK154.out (by decide))) | (show (Addr.add _ _).block ≠ _; rw [add_block]; exact Kd.own_blk (Kd.R_ne HO_7.out BK154.out (by decide))) | (dsimp only; exact Kd.own_blk (Kd.R_ne HO_7.out BK154.out (by decide)))) _).trans (((cell_far (p := ⟨gb154, _, none⟩) (by first | exact Kd.own_blk (Kd.R_ne HO_7.out BK154.out (by decide)) | (rw [add_block]; exact Kd.own_blk (Kd.R_ne HO_7.out BK154.out (by decide))) | (show (Addr.add _ _).block ≠ _; rw [add_block]; exact Kd.own_blk (Kd.R_ne HO_7.out BK154.out (by decide))) | (dsimp only; exact Kd.own_blk (Kd.R_ne HO_7.out BK154.out (by decide)))) _).trans (((cell_far (p := ⟨gb154, _, none⟩) (by first | exact Kd.own_blk (Kd.R_ne HO_7.out BK154.out (by decide)) | (rw [add_block]; exact Kd.own_blk (Kd.R_ne HO_7.out BK154.out (by decide))) | (show (Addr.add _ _).block ≠ _; rw [add_block]; exact Kd.own_blk (Kd.R_ne HO_7.out BK154.out (by decide))) | (dsimp only; exact Kd.own_blk (Kd.R_ne HO_7.out BK154.out (by decide)))) _).trans (((cell_far (p := ⟨gb154, _, none⟩) (by first | exact Kd.own_blk (Kd.R_ne HO_7.out BK154.out (by decide)) | (rw [add_block]; exact Kd.own_blk (Kd.R_ne HO_7.out BK154.out (by decide))) | (show (Addr.add _ _).block ≠ _; rw [add_block]; exact Kd.own_blk (Kd.R_ne HO_7.out BK154.out (by decide))) | (dsimp only; exact Kd.own_blk (Kd.R_ne HO_7.out BK154.out (by decide)))) _).trans (hHeld.1)))))))), ((cell_far (p := ⟨gb154, _, none⟩) (by first | exact Kd.own_blk (Kd.R_ne HO_7.out BK154.out (by decide)) | (rw [add_block]; exact Kd.own_blk (Kd.R_ne HO_7.out BK154.out (by decide))) | (show (Addr.add _ _).block ≠ _; rw [add_block]; exact Kd.own_blk (Kd.R_ne HO_7.out BK154.out (by decide))) | (dsimp only; exact Kd.own_blk (Kd.R_ne HO_7.out BK154.out (by decide)))) _).trans (((cell_far (p := ⟨gb154, _, none⟩) (by first | exact Kd.own_blk (Kd.R_ne HO_7.out BK154.out (by decide)) | (rw [add_block]; exact Kd.own_blk (Kd.R_ne HO_7.out BK154.out (by decide))) | (show (Addr.add _ _).block ≠ _; rw [add_block]; exact Kd.own_blk (Kd.R_ne HO_7.out BK154.out (by decide))) | (dsimp only; exact Kd.own_blk (Kd.R_ne HO_7.out BK154.out (by decide)))) _).trans (((cell_far (p := ⟨gb154, _, none⟩) (by first | exact Kd.own_blk (Kd.R_ne HO_7.out BK154.out (by decide)) | (rw [add_block]; exact Kd.own_blk (Kd.R_ne HO_7.out BK154.out (by decide))) | (show (Addr.add _ _).block ≠ _; rw [add_block]; exact Kd.own_blk (Kd.R_ne HO_7.out BK154.out (by decide))) | (dsimp only; exact Kd.own_blk (Kd.R_ne HO_7.out BK154.out (by decide)))) _).trans (((cell_far (p := ⟨gb154, _, none⟩) (by first | exact Kd.own_blk (Kd.R_ne HO_7.out BK154.out (by decide)) | (rw [add_block]; exact Kd.own_blk (Kd.R_ne HO_7.out BK154.out (by decide))) | (show (Addr.add _ _).block ≠ _; rw [add_block]; exact Kd.own_blk (Kd.R_ne HO_7.out BK154.out (by decide))) | (dsimp only; exact Kd.own_blk (Kd.R_ne HO_7.out BK154.out (by decide)))) _).trans (hHeld.2.1)))))))), ((cell_far (p := ⟨gb154, _, none⟩) (by first | exact Kd.own_blk (Kd.R_ne HO_7.out BK154.out (by decide)) | (rw [add_block]; exact Kd.own_blk (Kd.R_ne HO_7.out BK154.out (by decide))) | (show (Addr.add _ _).block ≠ _; rw [add_block]; exact Kd.own_blk (Kd.R_ne HO_7.out BK154.out (by decide))) | (dsimp only; exact Kd.own_blk (Kd.R_ne HO_7.out BK154.out (by decide)))) _).trans (((cell_far (p := ⟨gb154, _, none⟩) (by first | exact Kd.own_blk (Kd.R_ne HO_7.out BK154.out (by decide)) | (rw [add_block]; exact Kd.own_blk (Kd.R_ne HO_7.out BK154.out (by decide))) | (show (Addr.add _ _).block ≠ _; rw [add_block]; exact Kd.own_blk (Kd.R_ne HO_7.out BK154.out (by decide))) | (dsimp only; exact Kd.own_blk (Kd.R_ne HO_7.out BK154.out (by decide)))) _).trans (((cell_far (p := ⟨gb154, _, none⟩) (by first | exact Kd.own_blk (Kd.R_ne HO_7.out BK154.out (by decide)) | (rw [add_block]; exact Kd.own_blk (Kd.R_ne HO_7.out BK154.out (by decide))) | (show (Addr.add _ _).block ≠ _; rw [add_block]; exact Kd.own_blk (Kd.R_ne HO_7.out BK154.out (by decide))) | (dsimp only; exact Kd.own_blk (Kd.R_ne HO_7.out BK154.out (by decide)))) _).trans (((cell_far (p := ⟨gb154, _, none⟩) (by first | exact Kd.own_blk (Kd.R_ne HO_7.out BK154.out (by decide)) | (rw [add_block]; exact Kd.own_blk (Kd.R_ne HO_7.out BK154.out (by decide))) | (show (Addr.add _ _).block ≠ _; rw [add_block]; exact Kd.own_blk (Kd.R_ne HO_7.out BK154.out (by decide))) | (dsimp only; exact Kd.own_blk (Kd.R_ne HO_7.out BK154.out (by decide)))) _).trans (hHeld.2.2))))))))⟩ (fun hHeld => ?_)
          clear hK K
          refine dq ?_
          have hnb66 := NB154_137.out
          have hnc66 := NB137_154.out
          have hcz67_0 := bc BK154 0
          have hcz67_1 := bc BK154 1
          have hcz67_2 := bc BK154 2
          have hcz67_3 := bc BK154 3
          have hfz67_0 := bf BK154 0
          have hfz67_1 := bf BK154 1
          have hfz67_2 := bf BK154 2
          have hfz67_3 := bf BK154 3
          have hcz68_0 := bc BK137 0
          have hcz68_1 := bc BK137 1
          have hcz68_2 := bc BK137 2
          have hcz68_3 := bc BK137 3
          have hfz68_0 := bf BK137 0
          have hfz68_1 := bf BK137 1
          have hfz68_2 := bf BK137 2
          have hfz68_3 := bf BK137 3
          try go_wp2
          refine bodyPost_ret (results_ct rfl _ _ gb137 146 #[.string (rdOf ByteArray.empty t142 0), .string (rdOf ByteArray.empty t142 1), .string (rdOf ByteArray.empty t142 2), .slice none 0 0] (0, 0) _ rfl (by (with_reducible repeat (first | refine blk_drewN ?_ _ | refine blk_drew ?_ | refine blk_alloc ?_ _)); refine blk_put (cs := #[.string (rdOf ByteArray.empty t142 0), .string (rdOf ByteArray.empty t142 1), .string (rdOf ByteArray.empty t142 2), .slice none 0 0]) ?_ 3 _ rfl; (with_reducible repeat (first | refine blk_drewN ?_ _ | refine blk_drew ?_ | refine blk_alloc ?_ _)); refine blk_put (cs := #[.string (rdOf ByteArray.empty t142 0), .string (rdOf ByteArray.empty t142 1), .string (⟨#[]⟩ : ByteArray), .slice none 0 0]) ?_ 2 _ rfl; (with_reducible repeat (first | refine blk_drewN ?_ _ | refine blk_drew ?_ | refine blk_alloc ?_ _)); refine blk_put (cs := #[.string (rdOf ByteArray.empty t142 0), .string (⟨#[]⟩ : ByteArray), .string (⟨#[]⟩ : ByteArray), .slice none 0 0]) ?_ 1 _ rfl; (with_reducible repeat (first | refine blk_drewN ?_ _ | refine blk_drew ?_ | refine blk_alloc ?_ _)); refine blk_put (cs := #[.string (⟨#[]⟩ : ByteArray), .string (⟨#[]⟩ : ByteArray), .string (⟨#[]⟩ : ByteArray), .slice none 0 0]) ?_ 0 _ rfl; (with_reducible repeat (first | refine blk_drewN ?_ _ | refine blk_drew ?_ | refine blk_alloc ?_ _)); refine blk_far ?_ NB137_154.out _; (with_reducible repeat (first | refine blk_drewN ?_ _ | refine blk_drew ?_ | refine blk_alloc ?_ _)); refine blk_far ?_ NB137_154.out _; (with_reducible repeat (first | refine blk_drewN ?_ _ | refine blk_drew ?_ | refine blk_alloc ?_ _)); refine blk_far ?_ NB137_154.out _; (with_reducible repeat (first | refine blk_drewN ?_ _ | refine blk_drew ?_ | refine blk_alloc ?_ _)); refine blk_far ?_ NB137_154.out _; (with_reducible repeat (first | refine blk_drewN ?_ _ | refine blk_drew ?_ | refine blk_alloc ?_ _)); exact BK137.out) Tryz.underlying146 rfl (by kernel_rfl)) rfl ?_
          exact ⟨_, by first | rfl | (simp [errW_none, errW_some] <;> rfl) | (simp [*, errW_none, errW_some] <;> rfl), by first | exact Kd.R_nil _ _ _ _ _ | exact Kd.N_nil _ _ _ _ _ | exact Kd.V_nil _ _ _ _ _ | exact Kd.Q_nil _ _ _ _ _ | exact Kd.S_nil _ _ _ _ _, ba HB⟩
        ·rw [if_neg c33] at H
         exact absurd H (by simp)
       ·rw [if_neg c32] at H
        exact absurd H (by simp)
      ·rw [if_neg c31] at H
       exact absurd H (by simp)
  ·rw [if_neg c4] at H
   exact absurd H (by simp)
 ·replace c3 := Bool.eq_false_iff.mpr c3
  subst c3
  replace H := jf H
  simp only [Option.some.injEq, Prod.mk.injEq] at H
  obtain ⟨rfl, rfl, rfl, rfl, rfl⟩ := H
  go_enter Tryz.func150, Tryz.ntmps150
  go_wp2_with (first | ((with_reducible refine gate_dst (N := 2) rfl ?_); refine box_event ?hg (N := 2) ?hd (cs := #[.string (⟨#[]⟩ : ByteArray), .string (⟨#[]⟩ : ByteArray), .string (⟨#[]⟩ : ByteArray), .slice none 0 0]) (t := 146) ?hr ?_; (case hd => rfl); (case hg => rfl); (case hr => first | (go_simp; done) | (go_simp; rfl)); intro gb137 hg w69 hbox hb; have n0_ := bs HB hb; have n1_ := Aside0.mk (hbox); have n2_ := gz hg HB; have n3_ := gz hg HB; revert n0_ n1_ n2_ n3_; clear HB; intro HB BK137 GW137 GE137; clear hb hbox hg) | ((with_reducible refine gate_callee (f := 171) rfl ?_); refine gl 12 Tryz.func171 #[.string a0, .string (⟨#[118]⟩ : ByteArray)] ?_; (with_reducible refine (strings_HasPrefix.calls a0 (⟨#[118]⟩ : ByteArray) false _ A2.out).mono ?_); rintro e w' ⟨rfl, ⟨nd, rfl⟩⟩; refine ⟨_, rfl, ?_⟩; (try (rw [drewN_self w69]; generalize hq_ : World.drewN w69 _ = w69; have n0_ : Aside0 (w69.heap[gb137]? = some (.cells #[.string (⟨#[]⟩ : ByteArray), .string (⟨#[]⟩ : ByteArray), .string (⟨#[]⟩ : ByteArray), .slice none 0 0] 146 (0, 0))) := ⟨by rw [← hq_]; exact (bk BK137)⟩; have n1_ : Aside0 (Below w.heap.size w w69) := ⟨by rw [← hq_]; exact (ba HB)⟩; clear BK137 HB hq_; revert n0_ n1_; intro BK137 HB)); have hcz70_0 := bc BK137 0; have hcz70_1 := bc BK137 1; have hcz70_2 := bc BK137 2; have hcz70_3 := bc BK137 3; have hfz70_0 := bf BK137 0; have hfz70_1 := bf BK137 1; have hfz70_2 := bf BK137 2; have hfz70_3 := bf BK137 3))
  refine bodyPost_ret (results_ct rfl _ _ gb137 146 #[.string (⟨#[]⟩ : ByteArray), .string (⟨#[]⟩ : ByteArray), .string (⟨#[]⟩ : ByteArray), .slice none 0 0] (0, 0) _ rfl (by (with_reducible repeat (first | refine blk_drewN ?_ _ | refine blk_drew ?_ | refine blk_alloc ?_ _)); refine blk_put (cs := #[.string (⟨#[]⟩ : ByteArray), .string (⟨#[]⟩ : ByteArray), .string (⟨#[]⟩ : ByteArray), .slice none 0 0]) ?_ 3 _ rfl; (with_reducible repeat (first | refine blk_drewN ?_ _ | refine blk_drew ?_ | refine blk_alloc ?_ _)); refine blk_put (cs := #[.string (⟨#[]⟩ : ByteArray), .string (⟨#[]⟩ : ByteArray), .string (⟨#[]⟩ : ByteArray), .slice none 0 0]) ?_ 2 _ rfl; (with_reducible repeat (first | refine blk_drewN ?_ _ | refine blk_drew ?_ | refine blk_alloc ?_ _)); refine blk_put (cs := #[.string (⟨#[]⟩ : ByteArray), .string (⟨#[]⟩ : ByteArray), .string (⟨#[]⟩ : ByteArray), .slice none 0 0]) ?_ 1 _ rfl; (with_reducible repeat (first | refine blk_drewN ?_ _ | refine blk_drew ?_ | refine blk_alloc ?_ _)); refine blk_put (cs := #[.string (⟨#[]⟩ : ByteArray), .string (⟨#[]⟩ : ByteArray), .string (⟨#[]⟩ : ByteArray), .slice none 0 0]) ?_ 0 _ rfl; (with_reducible repeat (first | refine blk_drewN ?_ _ | refine blk_drew ?_ | refine blk_alloc ?_ _)); exact BK137.out) Tryz.underlying146 rfl (by kernel_rfl)) rfl ?_
  exact ⟨_, by first | rfl | (simp [errW_none, errW_some] <;> rfl) | (simp [*, errW_none, errW_some] <;> rfl), by first | exact Kd.R_nil _ _ _ _ _ | exact Kd.N_nil _ _ _ _ _ | exact Kd.V_nil _ _ _ _ _ | exact Kd.Q_nil _ _ _ _ _ | exact Kd.S_nil _ _ _ _ _, ba HB⟩
end Go.Proofs.YtjfcmkddeglghaaGreatDoor.G
end
section
namespace Go.Proofs.YtjfcmkddeglghaaGreatDoor.G
open Go.RowKit Go.Proofs.YtjfcmkddeglghaaGreatDoorW.PrintWords Go.Proofs.YtjfcmkddeglghaaGreatDoorW.PrintLast Go.Proofs.YtjfcmkddeglghaaGreatDoorW.PrintMore
attribute [local go_sem] max2_int min2_int max_two min_two max_three min_three max_four min_four
set_option linter.unusedVariables false
set_option linter.unusedSimpArgs false
def version_May.f (k : Nat) (a0 : ByteArray) : Option (Bool) := (version_Split.f k a0).bind fun bt160 => (some (bt160.2.2.2.2 == 0))
set_option maxHeartbeats 8000000 in
set_option maxRecDepth 100000 in
theorem version_May.calls (k : Nat) (a0 : ByteArray) (r : Bool) (w : World) (h : version_May.f k a0 = some r) :
  Calls Tryz.prog 115 #[.string a0] w fun e w' => e = .returned (.bool r) ∧ Below w.heap.size w w' := by
 have hu146 := Tryz.underlying146
 have HB := Aside0.mk (Below.refl w.heap.size w)
 have H : ((version_Split.f k a0).bind fun bt160 => (some (bt160.2.2.2.2 == 0))) = some r := h
 clear h
 obtain ⟨⟨t160, t161, t162, t163, t166⟩, A2, H⟩ := bo H
 replace H : (some (t166 == 0)) = some r := H
 obtain rfl := Option.some.inj H
 go_enter Tryz.func115, Tryz.ntmps115
 go_wp2_with (first | ((with_reducible refine gate_callee (f := 150) rfl ?_); refine gl 7 Tryz.func150 #[.string a0] ?_; (with_reducible refine (version_Split.calls k a0 t160 t161 t162 t163 t166 _ A2.out).mono ?_); rintro e w3 ⟨v164, rfl, ho0, hb⟩; refine ⟨_, rfl, ?_⟩; have n0_ := Aside0.mk (Kd.R_lower ho0 (bz HB)); have n1_ := bs HB hb; revert n0_ n1_; clear HB; intro HO165 HB; (try clear hb); (try clear ho0)) | ((with_reducible refine gate_dst (N := 3) rfl ?_); refine box_event ?hg (N := 3) ?hd (cs := #[.string (⟨#[]⟩ : ByteArray), .string (⟨#[]⟩ : ByteArray), .string (⟨#[]⟩ : ByteArray), .slice none 0 0]) (t := 146) ?hr ?_; (case hd => rfl); (case hg => rfl); (case hr => first | (go_simp; done) | (go_simp; rfl)); intro gb167 hg w4 hbox hb; have n0_ := rb HO165 hb; have n1_ := bs HB hb; have n2_ := Aside0.mk (hbox); have n3_ := gz hg HB; have n4_ := gz hg HB; revert n0_ n1_ n2_ n3_ n4_; clear HO165 HB; intro HO165 HB BK167 GW167 GE167; clear hb hbox hg; have hcz5_0 := bc BK167 0; have hcz5_1 := bc BK167 1; have hcz5_2 := bc BK167 2; have hcz5_3 := bc BK167 3; have hfz5_0 := bf BK167 0; have hfz5_1 := bf BK167 1; have hfz5_2 := bf BK167 2; have hfz5_3 := bf BK167 3; obtain ⟨Ao6, co6, eo6⟩ := Kd.R_slice HO165.out; subst eo6))
 go_ret
 exact ⟨by first | rfl | (simp [errW_none, errW_some] <;> rfl) | (simp [*, errW_none, errW_some] <;> rfl), ba HB⟩
end Go.Proofs.YtjfcmkddeglghaaGreatDoor.G
end
section
namespace Go.Proofs.YtjfcmkddeglghaaGreatDoor.G
open Go.RowKit Go.Proofs.YtjfcmkddeglghaaGreatDoorW.PrintWords Go.Proofs.YtjfcmkddeglghaaGreatDoorW.PrintLast Go.Proofs.YtjfcmkddeglghaaGreatDoorW.PrintMore
attribute [local go_sem] max2_int min2_int max_two min_two max_three min_three max_four min_four
set_option linter.unusedVariables false
set_option linter.unusedSimpArgs false
def node_May.f (k : Nat) (a0_0 : ByteArray) (a0_1 : ByteArray) : Option (Bool) := (path_May.f k a0_0).bind fun t187 => (if t187 = true then ((version_May.f k a0_1).bind fun t188 => (some t188)) else (some false))
set_option maxHeartbeats 8000000 in
set_option maxRecDepth 100000 in
theorem node_May.calls (k : Nat) (a0_0 : ByteArray) (a0_1 : ByteArray) (r : Bool) (w : World) (h : node_May.f k a0_0 a0_1 = some r) :
  Calls Tryz.prog 76 #[.agg #[.string a0_0, .string a0_1]] w fun e w' => e = .returned (.bool r) ∧ Below w.heap.size w w' := by
 have hu24 := Tryz.underlying24
 have HB := Aside0.mk (Below.refl w.heap.size w)
 have H : ((path_May.f k a0_0).bind fun t187 => (if t187 = true then ((version_May.f k a0_1).bind fun t188 => (some t188)) else (some false))) = some r := h
 clear h
 obtain ⟨t187, A2, H⟩ := bo H
 by_cases c3 : t187 = true
 ·subst c3
  replace H := it H
  obtain ⟨t188, A4, H⟩ := bo H
  obtain rfl := Option.some.inj H
  go_enter Tryz.func76, Tryz.ntmps76
  go_wp2_with (first | ((with_reducible refine gate_dst (N := 1) rfl ?_); refine box_event ?hg (N := 1) ?hd (cs := #[.string a0_0, .string a0_1]) (t := 24) ?hr ?_; (case hd => rfl); (case hg => rfl); (case hr => first | (go_simp; done) | (go_simp; rfl)); intro gb186 hg w5 hbox hb; have n0_ := bs HB hb; have n1_ := Aside0.mk (hbox); have n2_ := gz hg HB; have n3_ := gz hg HB; revert n0_ n1_ n2_ n3_; clear HB; intro HB BK186 GW186 GE186; clear hb hbox hg; have hcz6_0 := bc BK186 0; have hcz6_1 := bc BK186 1; have hfz6_0 := bf BK186 0; have hfz6_1 := bf BK186 1) | ((with_reducible refine gate_callee (f := 92) rfl ?_); refine gl 5 Tryz.func92 #[.string a0_0] ?_; (with_reducible refine (path_May.calls k a0_0 true _ A2.out).mono ?_); rintro e w7 ⟨rfl, hb⟩; refine ⟨_, rfl, ?_⟩; have n0_ := bb BK186 hb; have n1_ := bs HB hb; revert n0_ n1_; clear BK186 HB; intro BK186 HB; (try clear hb); have hcz8_0 := bc BK186 0; have hcz8_1 := bc BK186 1; have hfz8_0 := bf BK186 0; have hfz8_1 := bf BK186 1) | (go_at_call 115; (with_reducible refine (version_May.calls k a0_1 t188 _ A4.out).mono ?_); rintro e w9 ⟨rfl, hb⟩; have n0_ := bb BK186 hb; have n1_ := bs HB hb; revert n0_ n1_; clear BK186 HB; intro BK186 HB; (try clear hb)))
  go_ret
  exact ⟨by first | rfl | (simp [errW_none, errW_some] <;> rfl) | (simp [*, errW_none, errW_some] <;> rfl), ba HB⟩
 ·replace c3 := Bool.eq_false_iff.mpr c3
  subst c3
  replace H := jf H
  obtain rfl := Option.some.inj H
  go_enter Tryz.func76, Tryz.ntmps76
  go_wp2_with (first | ((with_reducible refine gate_dst (N := 1) rfl ?_); refine box_event ?hg (N := 1) ?hd (cs := #[.string a0_0, .string a0_1]) (t := 24) ?hr ?_; (case hd => rfl); (case hg => rfl); (case hr => first | (go_simp; done) | (go_simp; rfl)); intro gb186 hg w10 hbox hb; have n0_ := bs HB hb; have n1_ := Aside0.mk (hbox); have n2_ := gz hg HB; have n3_ := gz hg HB; revert n0_ n1_ n2_ n3_; clear HB; intro HB BK186 GW186 GE186; clear hb hbox hg; have hcz11_0 := bc BK186 0; have hcz11_1 := bc BK186 1; have hfz11_0 := bf BK186 0; have hfz11_1 := bf BK186 1) | ((with_reducible refine gate_callee (f := 92) rfl ?_); refine gl 5 Tryz.func92 #[.string a0_0] ?_; (with_reducible refine (path_May.calls k a0_0 false _ A2.out).mono ?_); rintro e w12 ⟨rfl, hb⟩; refine ⟨_, rfl, ?_⟩; have n0_ := bb BK186 hb; have n1_ := bs HB hb; revert n0_ n1_; clear BK186 HB; intro BK186 HB; (try clear hb)))
  go_ret
  exact ⟨by first | rfl | (simp [errW_none, errW_some] <;> rfl) | (simp [*, errW_none, errW_some] <;> rfl), ba HB⟩
end Go.Proofs.YtjfcmkddeglghaaGreatDoor.G
end
section
set_option linter.unusedVariables false
set_option linter.unusedSimpArgs false
namespace Go.Proofs.YtjfcmkddeglghaaGreatDoor.G
open Go.RowKit Gw Go.Proofs.YtjfcmkddeglghaaGreatDoorW.PrintWords Go.Proofs.YtjfcmkddeglghaaGreatDoorW.PrintLast Go.Proofs.YtjfcmkddeglghaaGreatDoorW.PrintMore
def Ev {α : Type} (F : Nat → Option α) (v : α) : Prop := ∃ k, ∀ j, k ≤ j → F j = some v
section
variable {α β : Type} {F G : Nat → Option α} {v u : α}
theorem Ev.some_ (v : α) : Ev (fun _ => some v) v := ⟨0, fun _ _ => rfl⟩
theorem Ev.of_eq {g : Option α} (h : g = some v) : Ev (fun _ => g) v := ⟨0, fun _ _ => h⟩
theorem Ev.some_eq (h : u = v) : Ev (fun _ => some u) v := ⟨0, fun _ _ => by rw [h]⟩
theorem Ev.bind {F : Nat → Option β} {G : Nat → β → Option α} {y : β} (hF : Ev F y) (hG : Ev (fun k => G k y) v) : Ev (fun k => (F k).bind (G k)) v := by
  obtain ⟨a, ha⟩ := hF
  obtain ⟨b, hb⟩ := hG
  refine ⟨a + b, fun j hj => ?_⟩
  show (F j).bind (G j) = some v
  rw [ha j (by omega)]
  exact hb j (by omega)
theorem Ev.bindc {g : Option β} {G : Nat → β → Option α} {y : β} (h : g = some y) (hG : Ev (fun k => G k y) v) : Ev (fun k => g.bind (G k)) v := Ev.bind (Ev.of_eq h) hG
theorem Ev.pos {c : Prop} [Decidable c] (h : c) (hF : Ev F v) : Ev (fun k => if c then F k else G k) v := by simpa only [if_pos h] using hF
theorem Ev.neg {c : Prop} [Decidable c] (h : ¬ c) (hG : Ev G v) : Ev (fun k => if c then F k else G k) v := by simpa only [if_neg h] using hG
theorem Ev.succ (h : Ev (fun k => F (k + 1)) v) : Ev F v := by
  obtain ⟨a, ha⟩ := h
  refine ⟨a + 1, fun j hj => ?_⟩
  obtain ⟨i, rfl⟩ : ∃ i, j = i + 1 := ⟨j - 1, by omega⟩
  exact ha i (by omega)
theorem Ev.get (h : Ev F v) : ∃ k, F k = some v := by
  obtain ⟨a, ha⟩ := h
  exact ⟨a, ha a (Nat.le_refl _)⟩
theorem Ev.val (h : Ev F v) (e : v = u) : Ev F u := e ▸ h
end
abbrev Sz (s : Str) : Prop := s.length < 4294967281
theorem w64n (n : Nat) (h : n < 9223372036854775807) : wrap64 ((n : Int) + 1) = ((n + 1 : Nat) : Int) := by rw [w64 (by omega) (by omega)]; rfl
theorem rdOf_at {α : Type} (d : α) (xs : List α) (i : Nat) (h : i < xs.length) : rdOf d xs (i : Int) = xs[i] := by
  unfold rdOf
  rw [Int.toNat_natCast, List.getD_eq_getElem?_getD, List.getElem?_eq_getElem h]
  rfl
theorem drop_at {α : Type} (xs : List α) (i : Nat) (h : i < xs.length) : xs.drop i = xs[i] :: xs.drop (i + 1) := List.drop_eq_getElem_cons h
theorem bt_at_ofL (l : Str) (i : Nat) (h : i < l.length) : bt (ofL l) (i : Int) = ((l[i]'h).toNat : Int) := by
  rw [← bt_at (ofL l) (i : Int) (by rw [Int.toNat_natCast]; exact h)]
  rfl
theorem toList_ofL (l : Str) : (ofL l).toList = l := by rw [toList_data]
theorem u8_all (p : UInt8 → Bool) (h : ((List.range 256).all fun n => p n.toUInt8) = true) (c : UInt8) : p c = true := by
  have h2 := List.all_eq_true.1 h c.toNat (List.mem_range.2 (UInt8.toNat_lt c))
  have h3 : c.toNat.toUInt8 = c := by simp
  rwa [h3] at h2
theorem parts_mem_le (c : UInt8) : ∀ (l p : Str), p ∈ parts c l → p.length ≤ l.length := by
  intro l
  induction l with
  | nil => intro p h; simp [parts] at h; subst h; simp
  | cons b l ih =>
    intro p h
    by_cases hb : b = c
    · simp only [parts, if_pos hb, List.mem_cons] at h
      rcases h with rfl | h
      · simp
      · have := ih p h; simp; omega
    · simp only [parts, if_neg hb] at h
      have hne := parts_ne c l
      cases e : parts c l with
      | nil => exact absurd e hne
      | cons x t =>
        rw [e] at h ih
        simp only [List.mem_cons] at h
        rcases h with rfl | h
        · have := ih x (by simp); simp; omega
        · have := ih p (by simp [h]); simp; omega
theorem parts_len (c : UInt8) (l : Str) : (parts c l).length ≤ l.length + 1 := by
  rw [parts_length]
  have := List.count_le_length (a := c) (l := l)
  omega
end Go.Proofs.YtjfcmkddeglghaaGreatDoor.G
end
section
namespace Go.Proofs.YtjfcmkddeglghaaGreatDoor.G
open Go.RowKit Gw Go.Proofs.YtjfcmkddeglghaaGreatDoorW.PrintWords Go.Proofs.YtjfcmkddeglghaaGreatDoorW.PrintLast
set_option linter.unusedVariables false
set_option linter.unusedSimpArgs false
theorem stringslite_Index_ev (l : Str) (c : UInt8) (h : l.length ≤ 9223372036854775807) : stringslite_Index.f (ofL l) (ofL [c]) = some (Lib.indexByte l c) := by
  unfold stringslite_Index.f
  rw [if_pos ⟨rfl, h⟩, bt_ofL]
  simp
theorem strings_Cut_ev (l : Str) (c : UInt8) (h : l.length ≤ 9223372036854775806) :
    strings_Cut.f (ofL l) (ofL [c]) = some (ofL (l.takeWhile (· != c)), ofL (l.dropWhile (· != c)).tail, decide (c ∈ l)) := by
  unfold strings_Cut.f stringslite_Cut.f
  rw [stringslite_Index_ev l c (by omega)]
  simp only [Option.bind_some]
  by_cases hc : c ∈ l
  · obtain ⟨h1, h2, h3⟩ := index_split c l hc
    have hlen := congrArg List.length h2
    simp only [List.length_append, List.length_cons] at hlen
    rw [h1]
    generalize l.takeWhile (· != c) = p at *
    generalize (l.dropWhile (· != c)).tail = q at *
    have e1 : (ofL [c]).size = 1 := rfl
    have e2 : (ofL l).size = l.length := rfl
    rw [e1, e2, w64 (by omega) (by omega)]
    rw [if_pos (by omega), if_pos (by omega), if_pos (by omega), if_pos (by omega), if_pos (by omega)]
    simp only [Option.bind_some, extract_ofL]
    have e3 : ((p.length : Int)).toNat = p.length := by omega
    have e4 : ((p.length : Int) + ((1 : Nat) : Int)).toNat = p.length + 1 := by omega
    rw [e3, e4]
    have e5 : (l.drop 0).take (p.length - 0) = p := by rw [h2]; simp
    have e6 : (l.drop (p.length + 1)).take (l.length - (p.length + 1)) = q := by
      rw [h2]
      simp
      exact List.take_of_length_le (by omega)
    rw [e5, e6, decide_eq_true hc]
  · obtain ⟨h1, h2, h3⟩ := index_none c l hc
    rw [h1, if_neg (by omega), h2, h3, decide_eq_false hc]
    rfl
end Go.Proofs.YtjfcmkddeglghaaGreatDoor.G
end
section
namespace Go.Proofs.YtjfcmkddeglghaaGreatDoor.G
open Go.RowKit Gw Go.Proofs.YtjfcmkddeglghaaGreatDoorW.PrintWords Go.Proofs.YtjfcmkddeglghaaGreatDoorW.PrintLast Go.Proofs.YtjfcmkddeglghaaGreatDoorW.PrintMore
set_option linter.unusedVariables false
set_option linter.unusedSimpArgs false
theorem octEl_eq (c : UInt8) : octEl c = (isDigit c || isLetter c || isMark c) := by
  have := u8_all (fun c => octEl c == (isDigit c || isLetter c || isMark c)) (by decide +kernel) c
  simpa using this
theorem cls_digit (c : UInt8) : ([1] : List Int).contains ((octClass c : Nat) : Int) = isDigit c := by
  have := u8_all (fun c => ([1] : List Int).contains ((octClass c : Nat) : Int) == isDigit c) (by decide +kernel) c
  simpa using this
theorem cls_word (c : UInt8) : (([1, 2, 3] : List Int).contains ((octClass c : Nat) : Int) && !markL.contains c) = (isDigit c || isLetter c || c == 45) := by
  have := u8_all (fun c => (([1, 2, 3] : List Int).contains ((octClass c : Nat) : Int) && !markL.contains c) == (isDigit c || isLetter c || c == 45)) (by decide +kernel) c
  simpa using this
theorem all_digit (l : Str) : octAll l [1] = l.all isDigit := by
  unfold octAll
  congr 1
  funext c
  exact cls_digit c
theorem containsAny_eq (l ch : Str) : Lib.containsAny l ch = l.any ch.contains := by
  unfold Lib.containsAny
  induction l with
  | nil => rfl
  | cons b l ih =>
    have hg := Lib.indexAny_ge ch l
    rw [List.any_cons, Lib.indexAny]
    cases h : ch.contains b
    · simp only [Bool.false_eq_true, if_false, Bool.false_or]
      rw [← ih]
      by_cases h1 : Lib.indexAny l ch = -1
      · rw [h1]; rfl
      · have : (Lib.indexAny l ch == -1) = false := by simpa using h1
        rw [this]
        simp only [Bool.false_eq_true, if_false]
        congr 1
        apply propext
        omega
    · simp
theorem octet_All_ev (l : Str) (of : List Int) (h : Sz l) : octet_All.f (ofL l) of = some (octAll l of) := by
  unfold octet_All.f
  rw [if_pos (by rw [size_ofL]; omega)]
theorem octet_Parts_ev (l : Str) (c : UInt8) (h : Sz l) : octet_Parts.f (ofL l) (c.toNat : Int) = some ((parts c l).map ofL) := by
  unfold octet_Parts.f
  have e : strOfNums [(c.toNat : Int)] = ofL [c] := by
    apply ext_data
    simp [strOfNums, ofL]
  have e2 : strings_Split.f (ofL l) (ofL [c]) = some ((parts c l).map ofL) := by
    unfold strings_Split.f
    have h1 : (ofL [c]).size = 1 := rfl
    rw [if_pos ⟨h1, by rw [size_ofL]; exact h⟩, bt_ofL]
    simp
  rw [e, e2]
  rfl
theorem elemB_eq (s : Str) : elemB s = elemMay s := by
  unfold elemB elemMay
  have : (fun c => octEl c) = (fun c => isDigit c || isLetter c || isMark c) := funext octEl_eq
  show (_ && s.all (fun c => octEl c)) = _
  rw [this]
theorem path_element_ev (s : Str) (h : Sz s) : path_element.f (ofL s) = some (elemMay s) := by
  unfold path_element.f
  rw [if_pos (by rw [size_ofL]; omega), ← elemB_eq]
theorem path_Elements_loop (x4 : List ByteArray) (L : List Str) (hL : ∀ s ∈ L, Sz s) (hl : L.length < 9223372036854775807) : ∀ n i, i + n = L.length →
    Ev (fun k => path_Elements.l0 k x4 (L.map ofL) (L.length : Int) (i : Int)) (if (L.drop i).all elemMay then (x4, 0) else ([], 1)) := by
  intro n
  induction n with
  | zero =>
    intro i hi
    refine Ev.succ ?_
    simp only [path_Elements.l0]
    refine Ev.neg (by omega) (Ev.some_eq ?_)
    rw [List.drop_of_length_le (by omega)]
    rfl
  | succ n ih =>
    intro i hi
    have hil : i < L.length := by omega
    refine Ev.succ ?_
    simp only [path_Elements.l0]
    refine Ev.pos (by omega) (Ev.pos (by omega) (Ev.pos (by rw [List.length_map]; omega) ?_))
    rw [rdOf_at _ _ _ (by rw [List.length_map]; exact hil), List.getElem_map, drop_at _ _ hil, List.all_cons]
    refine Ev.bindc (path_element_ev _ (hL _ (List.getElem_mem hil))) ?_
    cases he : elemMay L[i]
    · exact Ev.neg (by simp) (Ev.some_eq (by simp))
    · refine Ev.pos rfl ?_
      rw [w64n i (by omega), Bool.true_and]
      exact ih (i + 1) (by omega)
theorem parts_sz (c : UInt8) (p : Str) (h : Sz p) : ∀ s ∈ parts c p, Sz s := fun s hs => by
  have := parts_mem_le c p s hs
  unfold Sz at *; omega
theorem path_Elements_ev (p : Str) (h : Sz p) : Ev (fun k => path_Elements.f k (ofL p)) (if pathMay p then ((parts 47 p).map ofL, 0) else ([], 1)) := by
  unfold path_Elements.f
  refine Ev.bindc (octet_Parts_ev p 47 h) ?_
  have := parts_len 47 p
  have h2 := path_Elements_loop ((parts 47 p).map ofL) (parts 47 p) (parts_sz 47 p h) (by unfold Sz at h; omega) _ 0 (Nat.zero_add _)
  rw [List.length_map]
  exact h2
theorem path_May_ev (p : Str) (h : Sz p) : Ev (fun k => path_May.f k (ofL p)) (pathMay p) := by
  unfold path_May.f
  refine Ev.bind (path_Elements_ev p h) (Ev.some_eq ?_)
  cases pathMay p <;> rfl
theorem number_May_ev (s : Str) (h : Sz s) : number_May.f (ofL s) = some (numMay s) := by
  unfold number_May.f
  rw [toList_ofL]
  cases s with
  | nil => rfl
  | cons c s =>
    rw [if_neg (by simp), octet_All_ev _ _ h, all_digit]
    unfold numMay
    simp only [Option.bind_some]
    cases hd : (c :: s).all isDigit
    · simp
    · rw [if_pos rfl, if_pos (by rw [size_ofL]; simp), bt_ofL, size_ofL]
      by_cases hc : c = 48
      · subst hc
        have e48 : ((48 : UInt8).toNat : Int) = 48 := rfl
        rw [if_pos e48]
        cases s <;> simp
        omega
      · have : ¬ (c.toNat : Int) = 48 := fun e => hc (UInt8.toNat_inj.1 (by show c.toNat = 48; omega))
        rw [if_neg this]
        cases s <;> simp [hc]
theorem word_split (s : Str) : (octAll s [1, 2, 3] && !Lib.containsAny s markL) = s.all (fun c => isDigit c || isLetter c || c == 45) := by
  rw [containsAny_eq]
  unfold octAll
  induction s with
  | nil => rfl
  | cons b s ih =>
    rw [List.all_cons, List.all_cons, List.any_cons, ← ih, ← cls_word b, Bool.not_or]
    cases ([1, 2, 3] : List Int).contains ((octClass b : Nat) : Int) <;> cases markL.contains b <;> simp
theorem version_word_ev (s : Str) (h : Sz s) : Ev (fun k => version_word.f k (ofL s)) (wordMay s) := by
  unfold version_word.f
  have hj : ∀ b, Ev (fun k => version_word.j0 k (ofL s) b) (!b && (numMay s || !s.all isDigit)) := by
    intro b
    refine Ev.succ ?_
    simp only [version_word.j0]
    cases b
    · refine Ev.neg (by simp) (Ev.bindc (number_May_ev s h) ?_)
      cases hn : numMay s
      · refine Ev.neg (by simp) (Ev.bindc (octet_All_ev s _ h) (Ev.some_eq ?_))
        rw [all_digit]; simp
      · exact Ev.pos rfl (Ev.some_eq (by simp))
    · exact Ev.pos rfl (Ev.some_eq (by simp))
  rw [toList_ofL]
  have hw := word_split s
  by_cases hs : s = []
  · subst hs
    exact Ev.pos rfl (Ev.val (hj true) rfl)
  · have hs' : (s != []) = true := by simpa using hs
    have hc : strings_ContainsAny.f (ofL s) ⟨#[46, 95, 126]⟩ = some (Lib.containsAny s markL) := by
      unfold strings_ContainsAny.f
      rw [if_pos ⟨rfl, by rw [size_ofL]; exact h⟩]
    refine Ev.neg hs (Ev.bindc hc ?_)
    unfold wordMay
    rw [hs', ← hw]
    cases Lib.containsAny s markL
    · refine Ev.neg (by simp) (Ev.bindc (octet_All_ev s _ h) (Ev.val (hj _) ?_))
      simp
    · exact Ev.pos rfl (Ev.val (hj true) (by simp))
def verOut : Option Ver → ByteArray × ByteArray × ByteArray × List ByteArray × Int
  | some v => (ofL v.major, ofL v.minor, ofL v.patch, v.pre.map ofL, 0)
  | none => (⟨#[]⟩, ⟨#[]⟩, ⟨#[]⟩, [], 1)
theorem hasPrefix_ev (s : Str) (c : UInt8) (h : Sz s) : strings_HasPrefix.f (ofL s) (ofL [c]) = some (s.head? == some c) := by
  have e1 : (ofL [c]).size = 1 := rfl
  unfold strings_HasPrefix.f stringslite_HasPrefix.f
  rw [e1, size_ofL]
  cases s with
  | nil => rfl
  | cons b s =>
    rw [if_pos (by simp; omega), if_pos (by omega), if_pos (by simp; omega), extract_ofL, toList_ofL, toList_ofL]
    have : (((1 : Nat) : Int)).toNat = 1 := rfl
    rw [this]
    simp
theorem version_Split_loop (L : List Str) (a b c : ByteArray) (d : List ByteArray) (hL : ∀ s ∈ L, Sz s) (hl : L.length < 9223372036854775807) : ∀ n i, i + n = L.length →
    Ev (fun k => version_Split.l0 k (L.map ofL) (L.length : Int) (i : Int) a b c d) (if (L.drop i).all wordMay then (a, b, c, d, 0) else verOut none) := by
  intro n
  induction n with
  | zero =>
    intro i hi
    refine Ev.succ ?_
    simp only [version_Split.l0]
    refine Ev.neg (by omega) (Ev.some_eq ?_)
    rw [List.drop_of_length_le (by omega)]
    rfl
  | succ n ih =>
    intro i hi
    have hil : i < L.length := by omega
    refine Ev.succ ?_
    simp only [version_Split.l0]
    refine Ev.pos (by omega) (Ev.pos (by omega) (Ev.pos (by rw [List.length_map]; omega) ?_))
    rw [rdOf_at _ _ _ (by rw [List.length_map]; exact hil), List.getElem_map, drop_at _ _ hil, List.all_cons]
    refine Ev.bind (version_word_ev _ (hL _ (List.getElem_mem hil))) ?_
    cases he : wordMay L[i]
    · exact Ev.neg (by simp) (Ev.some_eq (by simp [verOut]))
    · refine Ev.pos rfl ?_
      rw [w64n i (by omega), Bool.true_and]
      exact ih (i + 1) (by omega)
theorem version_Split_no (x5 : ByteArray) (x6 : Bool) (L : List ByteArray) : Ev (fun k => version_Split.j0 k x5 x6 L true) (verOut none) := by
  refine Ev.succ ?_
  simp only [version_Split.j0]
  exact Ev.pos (by simp) (Ev.some_ _)
theorem dropWhile_mem (c : UInt8) (r : Str) : decide (c ∈ r) = !(r.dropWhile (· != c)).isEmpty := by
  by_cases h : c ∈ r
  · obtain ⟨_, _, h3⟩ := index_split c r h
    rw [h3, decide_eq_true h]; rfl
  · obtain ⟨_, _, h3⟩ := index_none c r h
    rw [h3, decide_eq_false h]; rfl
theorem version_Split_ev (s : Str) (h : Sz s) : Ev (fun k => version_Split.f k (ofL s)) (verOut (verSplit s)) := by
  unfold version_Split.f
  have hp := hasPrefix_ev s 118 h
  refine Ev.bindc hp ?_
  cases s with
  | nil => exact Ev.neg (by simp) (Ev.some_ _)
  | cons c r =>
    by_cases hc : c = 118
    · subst hc
      refine Ev.pos (by simp) (Ev.pos (by rw [size_ofL, List.length_cons]; omega) ?_)
      have hr : Sz r := by unfold Sz at *; simp at h; omega
      have ex : (ofL (118 :: r)).extract 1 (ofL (118 :: r)).size = ofL r := by
        rw [extract_ofL, size_ofL]; simp
      rw [ex]
      refine Ev.bindc (strings_Cut_ev r 45 (by unfold Sz at hr; omega)) ?_
      simp only
      have ht : Sz (r.takeWhile (· != 45)) := by
        have := (List.takeWhile_sublist (fun x : UInt8 => x != 45) (l := r)).length_le
        unfold Sz at *; omega
      have hd : (r.dropWhile (· != 45)).length ≤ r.length := (List.dropWhile_sublist (fun x : UInt8 => x != 45) (l := r)).length_le
      refine Ev.bindc (octet_Parts_ev _ 46 ht) ?_
      have hsz := parts_sz 46 _ ht
      have hv : verSplit (118 :: r) = match parts 46 (r.takeWhile (· != 45)) with
        | [a, b, c] => if numMay a && numMay b && numMay c then (match r.dropWhile (· != 45) with
            | [] => some ⟨a, b, c, []⟩
            | _ :: q => if (parts 46 q).all wordMay then some ⟨a, b, c, parts 46 q⟩ else none) else none
        | _ => none := rfl
      rw [hv, dropWhile_mem]
      clear hv
      generalize parts 46 (r.takeWhile (· != 45)) = P at hsz ⊢
      generalize r.dropWhile (· != 45) = D at hd ⊢
      have hno : ∀ x6 L, Ev (fun k => version_Split.j0 k (ofL D.tail) x6 L true) (verOut none) := fun x6 L => version_Split_no _ x6 L
      match P, hsz with
      | [], _ => exact Ev.neg (by simp) (hno _ _)
      | [_], _ => exact Ev.neg (by simp) (hno _ _)
      | [_, _], _ => exact Ev.neg (by simp) (hno _ _)
      | _ :: _ :: _ :: _ :: _, _ => exact Ev.neg (by simp; omega) (hno _ _)
      | [a, b, c], hsz =>
        have ha : Sz a := hsz a (by simp)
        have hb : Sz b := hsz b (by simp)
        have hc : Sz c := hsz c (by simp)
        show Ev _ (verOut (if (numMay a && numMay b && numMay c) = true then (match (generalizing := false) D with
            | [] => some ⟨a, b, c, []⟩
            | _ :: q => if (parts 46 q).all wordMay then some ⟨a, b, c, parts 46 q⟩ else none) else none))
        have r0 : rdOf ByteArray.empty ([a, b, c].map ofL) 0 = ofL a := rfl
        have r1 : rdOf ByteArray.empty ([a, b, c].map ofL) 1 = ofL b := rfl
        have r2 : rdOf ByteArray.empty ([a, b, c].map ofL) 2 = ofL c := rfl
        refine Ev.pos (by simp) (Ev.pos (by simp) ?_)
        rw [r0]
        refine Ev.bindc (number_May_ev a ha) ?_
        cases numMay a
        · exact Ev.neg (by simp) (Ev.val (hno _ _) (by simp))
        refine Ev.pos rfl (Ev.pos (by simp) ?_)
        rw [r1]
        refine Ev.bindc (number_May_ev b hb) ?_
        cases numMay b
        · exact Ev.neg (by simp) (Ev.val (hno _ _) (by simp))
        refine Ev.pos rfl (Ev.pos (by simp) ?_)
        rw [r2]
        refine Ev.bindc (number_May_ev c hc) ?_
        cases numMay c
        · exact Ev.val (hno _ _) (by simp)
        simp only [Bool.and_self, if_true, Bool.not_true]
        refine Ev.succ ?_
        simp only [version_Split.j0]
        refine Ev.neg (by simp) (Ev.pos (by simp) (Ev.pos (by simp) (Ev.pos (by simp) ?_)))
        rw [r0, r1, r2]
        cases D with
        | nil => exact Ev.neg (by simp) (Ev.some_ _)
        | cons x q =>
          refine Ev.pos (by simp) ?_
          have hq : Sz q := by unfold Sz at *; simp at hd; omega
          refine Ev.bindc (octet_Parts_ev q 46 hq) ?_
          have := parts_len 46 q
          have h2 := version_Split_loop (parts 46 q) (ofL a) (ofL b) (ofL c) ((parts 46 q).map ofL) (parts_sz 46 q hq) (by unfold Sz at hq; omega) _ 0 (Nat.zero_add _)
          rw [List.length_map]
          refine Ev.val h2 ?_
          rw [List.drop_zero]
          show _ = verOut (if (parts 46 q).all wordMay = true then some ⟨a, b, c, parts 46 q⟩ else none)
          cases (parts 46 q).all wordMay <;> rfl
    · have : ((c :: r).head? == some 118) = false := by simpa using hc
      rw [this]
      refine Ev.neg (by simp) (Ev.some_eq ?_)
      have : verSplit (c :: r) = none := by
        unfold verSplit
        split
        · rename_i e; injection e with e1 _; exact absurd e1 hc
        · rfl
      rw [this]; rfl
theorem version_May_ev (s : Str) (h : Sz s) : Ev (fun k => version_May.f k (ofL s)) (verMay s) := by
  unfold version_May.f
  refine Ev.bind (version_Split_ev s h) (Ev.some_eq ?_)
  unfold verMay
  cases verSplit s <;> rfl
theorem node_May_ev (p v : Str) (hp : Sz p) (hv : Sz v) : Ev (fun k => node_May.f k (ofL p) (ofL v)) (ndMay (p, v)) := by
  unfold node_May.f
  refine Ev.bind (path_May_ev p hp) ?_
  unfold ndMay
  cases pathMay p
  · exact Ev.neg (by simp) (Ev.some_ _)
  · refine Ev.pos rfl (Ev.bind (version_May_ev v hv) (Ev.some_ _))
end Go.Proofs.YtjfcmkddeglghaaGreatDoor.G
end
section
namespace Go.Proofs.YtjfcmkddeglghaaGreatDoor.G
open Go.RowKit Gw Go.Proofs.YtjfcmkddeglghaaGreatDoorW.PrintWords Go.Proofs.YtjfcmkddeglghaaGreatDoorW.PrintLast Go.Proofs.YtjfcmkddeglghaaGreatDoorW.PrintMore
set_option linter.unusedVariables false
set_option linter.unusedSimpArgs false
abbrev SNode := S24
abbrev SNeed := S49
def ndOf (x : SNode) : Nd := (x.f0.data.toList, x.f1.data.toList)
def okNode (x : SNode) : Bool := decide (x.f0.size < 4294967281) && decide (x.f1.size < 4294967281)
def mayN (x : SNode) : Bool := ndMay (ndOf x)
def nzN (x : SNode) : Bool := !(x.f0.toList == []) || !(x.f1.toList == [])
def okNeed (x : SNeed) : Bool := okNode x.f0 && okNode x.f1
def badNeed (x : SNeed) : Bool := !mayN x.f1 || nzN x.f0 && !mayN x.f0
theorem node_May_calls (x : SNode) (w : World) (h : okNode x = true) :
    Calls Tryz.prog 76 #[.agg #[.string x.f0, .string x.f1]] w fun e w' => e = .returned (.bool (mayN x)) ∧ Below w.heap.size w w' := by
  unfold okNode at h
  simp only [Bool.and_eq_true, decide_eq_true_eq] at h
  obtain ⟨p, v⟩ := x
  obtain ⟨k, hk⟩ := (node_May_ev p.data.toList v.data.toList (by rw [size_data] at h; exact h.1) (by rw [size_data v] at h; exact h.2)).get
  simp only [ofL_self] at hk
  exact node_May.calls k p v _ w hk
set_option maxHeartbeats 1000000 in
set_option maxRecDepth 1000000 in
theorem lack_Check1_calls (x : SNeed) (g : Nat) (w : World) (h : okNeed x = true) (hg : w.heap[g]? = some (.cells #[.string ⟨#[]⟩, .string ⟨#[]⟩] 24 (0, 0))) :
    Calls Tryz.prog 110 #[.agg #[.string x.f0.f0, .string x.f0.f1, .string x.f1.f0, .string x.f1.f1], .pointer (some ⟨g, 0, none⟩)] w fun e w' => e = .returned (.bool (badNeed x)) ∧ Below w.heap.size w w' := by
  have hu24 := Tryz.underlying24
  unfold okNeed at h
  simp only [Bool.and_eq_true] at h
  obtain ⟨h0, h1⟩ := h
  have hm1 := fun w => node_May_calls x.f1 w h1
  have hm0 := fun w => node_May_calls x.f0 w h0
  have hlt : g < w.heap.size := (Array.getElem?_eq_some_iff.1 hg).1
  have hc : ∀ w1, Below w.heap.size w w1 → w1.cell? ⟨g, 0, none⟩ = some (.string ⟨#[]⟩) ∧ w1.cell? ⟨g, 1, none⟩ = some (.string ⟨#[]⟩) := by
    intro w1 hb
    have hg1 := (hb.block g hlt).trans hg
    exact ⟨cell_of_row _ _ _ _ _ _ hg1, cell_of_row _ _ _ _ _ _ hg1⟩
  obtain ⟨⟨a, b⟩, ⟨c, d⟩⟩ := x
  unfold badNeed
  have step : ∀ (o : Obj) (w1 : World), Below (w.alloc o).heap.size (w.alloc o) w1 → Below w.heap.size w w1 := fun o w1 hb => below_then ((Below.refl _ _).alloc (Nat.le_refl _) _) (by simp) hb
  have STEP := Aside0.mk step
  have HC := Aside0.mk hc
  clear step hc hg
  cases ht : mayN ⟨c, d⟩
  · simp only at hm1
    rw [ht] at hm1
    go_enter Tryz.func110, Tryz.ntmps110
    go_wp2_with (go_at_call 76; (with_reducible refine (hm1 _).mono ?_); rintro e w' ⟨rfl, hb⟩)
    go_ret
    exact ⟨rfl, STEP.out _ _ hb⟩
  · simp only at hm1
    rw [ht] at hm1
    simp only at hm0
    by_cases ha : a.toList = []
    · have ha' : (a.toList == []) = true := by rw [ha]; rfl
      by_cases hb : b.toList = []
      · have hb' : (b.toList == []) = true := by rw [hb]; rfl
        have hz : nzN ⟨a, b⟩ = false := by unfold nzN; simp only [ha', hb']; rfl
        rw [hz]
        go_enter Tryz.func110, Tryz.ntmps110
        go_wp2_with (first | (go_at_call 76; (with_reducible refine (hm1 _).mono ?_); rintro e w' ⟨rfl, hb⟩; have HB := Aside0.mk (STEP.out _ _ hb); obtain ⟨k0, k1⟩ := HC.out _ HB.out; have hn := (hb.block w.heap.size (by simp)).trans (heap_alloc_new w _); have m0 := cell_of_row w' w.heap.size 0 _ _ _ hn; have m1 := cell_of_row w' w.heap.size 1 _ _ _ hn; simp only [List.getElem?_toArray, List.getElem?_cons_zero, List.getElem?_cons_succ] at m0 m1; clear hb hn) | (go_at_call 76; (with_reducible refine (hm0 _).mono ?_); rintro e w2 ⟨rfl, hb2⟩))
        go_ret
        exact ⟨rfl, HB.out⟩
      · have hb' : (b.toList == []) = false := by simpa using hb
        have hz : nzN ⟨a, b⟩ = true := by unfold nzN; simp only [ha', hb']; rfl
        rw [hz]
        go_enter Tryz.func110, Tryz.ntmps110
        go_wp2_with (first | (go_at_call 76; (with_reducible refine (hm1 _).mono ?_); rintro e w' ⟨rfl, hb⟩; have HB := Aside0.mk (STEP.out _ _ hb); obtain ⟨k0, k1⟩ := HC.out _ HB.out; have hn := (hb.block w.heap.size (by simp)).trans (heap_alloc_new w _); have m0 := cell_of_row w' w.heap.size 0 _ _ _ hn; have m1 := cell_of_row w' w.heap.size 1 _ _ _ hn; simp only [List.getElem?_toArray, List.getElem?_cons_zero, List.getElem?_cons_succ] at m0 m1; clear hb hn) | (go_at_call 76; (with_reducible refine (hm0 _).mono ?_); rintro e w2 ⟨rfl, hb2⟩))
        go_ret
        exact ⟨rfl, below_then HB.out HB.out.size hb2⟩
    · have ha' : (a.toList == []) = false := by simpa using ha
      have hz : nzN ⟨a, b⟩ = true := by unfold nzN; simp only [ha']; rfl
      rw [hz]
      go_enter Tryz.func110, Tryz.ntmps110
      go_wp2_with (first | (go_at_call 76; (with_reducible refine (hm1 _).mono ?_); rintro e w' ⟨rfl, hb⟩; have HB := Aside0.mk (STEP.out _ _ hb); obtain ⟨k0, k1⟩ := HC.out _ HB.out; have hn := (hb.block w.heap.size (by simp)).trans (heap_alloc_new w _); have m0 := cell_of_row w' w.heap.size 0 _ _ _ hn; have m1 := cell_of_row w' w.heap.size 1 _ _ _ hn; simp only [List.getElem?_toArray, List.getElem?_cons_zero, List.getElem?_cons_succ] at m0 m1; clear hb hn) | (go_at_call 76; (with_reducible refine (hm0 _).mono ?_); rintro e w2 ⟨rfl, hb2⟩))
      go_ret
      exact ⟨rfl, below_then HB.out HB.out.size hb2⟩
def IdxPost (b : Bool) (w : World) (e : Ending) (w' : World) : Prop := ∃ z : Int, e = .returned (.int .i64 z) ∧ decide (0 ≤ z) = b ∧ Below w.heap.size w w'
set_option maxHeartbeats 1000000 in
set_option maxRecDepth 1000000 in
theorem indexNeed_calls (A : Option Addr) (c : Nat) (l : List SNeed) (g : Nat) (w : World) (hr : Kd.C k49 w A l.length l) (hok : ∀ x ∈ l, okNeed x = true) (hg : w.heap[g]? = some (.cells #[.string ⟨#[]⟩, .string ⟨#[]⟩] 24 (0, 0))) :
    Calls Tryz.prog 138 #[.slice A l.length c, .func (.func 110) #[] #[.pointer (some ⟨g, 0, none⟩)]] w (IdxPost (l.any badNeed) w) := by
  have HR := Aside0.mk hr
  have hlen : l.length ≤ 9223372036854775807 := hr.2.1
  have HO := Aside0.mk hok
  have hglt : g < w.heap.size := (Array.getElem?_eq_some_iff.1 hg).1
  have HG := Aside0.mk hg
  clear hr hok hg
  go_enter Tryz.func138, Tryz.ntmps138
  go_wp2
  go_loopg [5, 8] l.length (fun gg s5 s8 wx => ∃ i : Nat, i + gg = l.length ∧ s8 = .int .i64 i ∧ Aside0 (Below w.heap.size w wx) ∧ Aside0 ((l.take i).any badNeed = false))
  case atStart => exact ⟨0, by omega, rfl, ⟨Below.refl _ _⟩, ⟨rfl⟩⟩
  case round =>
    obtain ⟨i, hig, rfl, HB, HN⟩ := hrel
    cases gk with
    | zero =>
      obtain rfl : i = l.length := by omega
      have hiz : ¬ ((l.length : Int) < (l.length : Int)) := by omega
      go_wp2
      go_ret
      exact ⟨-1, rfl, by rw [List.take_length] at HN; rw [HN.out]; rfl, HB.out⟩
    | succ gg =>
      have hi : i < l.length := by omega
      have hiz : (i : Int) < (l.length : Int) := by omega
      obtain ⟨ad, e, h0, h1, h2, h3⟩ := at_T49 HR.out (i : Int) (by omega) hiz
      cases e
      have hx : Aside0 (rd_T49 l (i : Int) = l[i]) := ⟨rdOf_at _ _ _ hi⟩
      rw [hx.out] at h0 h1 h2 h3
      replace h0 := (HB.out.cell (World.block_lt_of_cell? w _ h0)).trans h0
      replace h1 := (HB.out.cell (World.block_lt_of_cell? w _ h1)).trans h1
      replace h2 := (HB.out.cell (World.block_lt_of_cell? w _ h2)).trans h2
      replace h3 := (HB.out.cell (World.block_lt_of_cell? w _ h3)).trans h3
      simp only [Int.toNat_natCast] at h0 h1 h2 h3
      have hcall := lack_Check1_calls l[i] g wr (HO.out _ (List.getElem_mem hi)) ((HB.out.block g hglt).trans HG.out)
      have HT := Aside0.mk (List.take_add_one (l := l) (i := i))
      have hgetE : Aside0 (l[i]? = some l[i]) := ⟨List.getElem?_eq_getElem hi⟩
      obtain ⟨y, hy⟩ : ∃ y, l[i] = y := ⟨_, rfl⟩
      rw [hy] at h0 h1 h2 h3 hcall hgetE
      have hmem : Aside0 (y ∈ l) := ⟨by rw [← hy]; exact List.getElem_mem hi⟩
      clear hx hy
      cases hb : badNeed y
      · rw [hb] at hcall
        have HBad := Aside0.mk hb
        clear hb
        go_wp2_with (go_at_call 110; (with_reducible refine hcall.mono ?_); rintro e w' ⟨rfl, hb2⟩)
        go_roundg gg
        case measure => omega
        case rel => exact ⟨i + 1, by omega, by go_num, ⟨below_then HB.out HB.out.size hb2⟩, ⟨by rw [HT.out, hgetE.out, List.any_append, HN.out]; simp [HBad.out]⟩⟩
      · rw [hb] at hcall
        have HBad := Aside0.mk hb
        clear hb
        go_wp2_with (go_at_call 110; (with_reducible refine hcall.mono ?_); rintro e w' ⟨rfl, hb2⟩)
        go_ret
        exact ⟨(i : Int), rfl, by rw [decide_eq_true (by omega)]; exact (List.any_eq_true.2 ⟨y, hmem.out, HBad.out⟩).symm, below_then HB.out HB.out.size hb2⟩
theorem containsNeed_calls (A : Option Addr) (c : Nat) (l : List SNeed) (g : Nat) (w : World) (hr : Kd.C k49 w A l.length l) (hok : ∀ x ∈ l, okNeed x = true) (hg : w.heap[g]? = some (.cells #[.string ⟨#[]⟩, .string ⟨#[]⟩] 24 (0, 0))) :
    Calls Tryz.prog 109 #[.slice A l.length c, .func (.func 110) #[] #[.pointer (some ⟨g, 0, none⟩)]] w fun e w' => e = .returned (.bool (l.any badNeed)) ∧ Below w.heap.size w w' := by
  have hI := indexNeed_calls A c l g w hr hok hg
  clear hr hok hg
  go_enter Tryz.func109, Tryz.ntmps109
  go_wp2_with (go_at_call 138; (with_reducible refine hI.mono ?_); rintro e w' ⟨z, rfl, hz, hb⟩; have HZ := Aside0.mk hz; clear hz)
  go_ret
  exact ⟨by rw [← HZ.out]; rfl, hb⟩
def lack_Check.f (l0 : List SNeed) : Option Int := if l0.all okNeed then some (if l0.any badNeed then 1 else 0) else none
set_option maxHeartbeats 1000000 in
theorem lack_Check.calls (A0 : Option Addr) (c0 : Nat) (l0 : List SNeed) (r : Int) (w : World) (hr0 : Kd.C k49 w A0 l0.length l0) (hc0 : l0.length ≤ c0) (h : lack_Check.f l0 = some r) :
    Calls Tryz.prog 71 #[.slice A0 l0.length c0] w fun e w' => e = .returned (.int .i64 r) ∧ Below w.heap.size w w' := by
  unfold lack_Check.f at h
  split at h
  case isFalse => cases h
  rename_i hok
  obtain rfl := Option.some.inj h
  clear h
  have hok' : ∀ x ∈ l0, okNeed x = true := List.all_eq_true.1 hok
  have hb1 : Below w.heap.size w (w.alloc (.cells #[.string ⟨#[]⟩, .string ⟨#[]⟩] 24)) := (Below.refl _ _).alloc (Nat.le_refl _) _
  have hC := containsNeed_calls A0 c0 l0 w.heap.size _ (Kd.C_below hr0 hb1) hok' (heap_alloc_new w _)
  have HB := Aside0.mk hb1
  clear hr0 hc0 hok hok' hb1
  cases hb : l0.any badNeed
  · rw [hb] at hC
    go_enter Tryz.func71, Tryz.ntmps71
    go_wp2_with (go_at_call 109; (with_reducible refine hC.mono ?_); rintro e w' ⟨rfl, hb2⟩)
    go_ret
    exact ⟨rfl, below_then HB.out HB.out.size hb2⟩
  · rw [hb] at hC
    go_enter Tryz.func71, Tryz.ntmps71
    go_wp2_with (go_at_call 109; (with_reducible refine hC.mono ?_); rintro e w' ⟨rfl, hb2⟩)
    go_ret
    exact ⟨rfl, below_then HB.out HB.out.size hb2⟩
end Go.Proofs.YtjfcmkddeglghaaGreatDoor.G
end
section
namespace Go.Proofs.YtjfcmkddeglghaaGreatDoor.G
open Go.RowKit Gw Go.Proofs.YtjfcmkddeglghaaGreatDoorW.PrintWords Go.Proofs.YtjfcmkddeglghaaGreatDoorW.PrintLast
open Go.ChangeMaps (setBlock)
set_option linter.unusedVariables false
set_option linter.unusedSimpArgs false
abbrev MNode := S24
def keyV (x : MNode) : Value := .agg #[.string x.f0, .string x.f1]
def entAt (p : MNode × Int) (i : Nat) : MapEntry := { key := keyV p.1, val := .int .i64 p.2, born := i }
def ents (l : List (MNode × Int)) : List MapEntry := l.zipIdx.map fun q => entAt q.1 q.2
def sameN (x y : MNode) : Bool := x.f0.toList == y.f0.toList && x.f1.toList == y.f1.toList
theorem sameN_iff (x y : MNode) : sameN x y = true ↔ x = y := by
  unfold sameN
  simp only [Bool.and_eq_true, beq_iff_eq]
  constructor
  · rintro ⟨h1, h2⟩
    obtain ⟨a, b⟩ := x
    obtain ⟨c, d⟩ := y
    have e1 : a = c := ext_data (by rw [← toList_data, ← toList_data]; exact h1)
    have e2 : b = d := ext_data (by rw [← toList_data, ← toList_data]; exact h2)
    rw [e1, e2]
  · rintro rfl; exact ⟨rfl, rfl⟩
theorem und24 : Tryz.prog.underlying 24 = some (.struct (Tryz.prog.fieldsOf 24)) := by kernel_rfl
theorem hss9 : Tryz.prog.underlying 9 = some .string := by kernel_rfl
set_option maxRecDepth 100000 in
theorem run_equal_node (x y : MNode) (w : World) : (Op.equal 24 (keyV x) (keyV y)).run Tryz.prog w = .ok (sameN x y) w := by
  have hu24 := Tryz.underlying24
  have h9 := hss9
  unfold Op.equal keyV
  show (Op.equalIn 10000 _ _ _).run _ w = _
  go_simp
  unfold sameN
  by_cases h0 : x.f0.toList = y.f0.toList
  · by_cases h1 : x.f1.toList = y.f1.toList <;> simp [h0, h1]
  · simp [h0]
def lookI (l : List (MNode × Int)) (x : MNode) (i : Nat) : Option (Nat × Int) :=
  match l with
  | [] => none
  | p :: l => if sameN x p.1 then some (i, p.2) else lookI l x (i + 1)
def lookM (l : List (MNode × Int)) (x : MNode) : Option Int := (lookI l x 0).map (·.2)
theorem run_findAsking (x : MNode) (w : World) : ∀ (l : List (MNode × Int)) (i : Nat),
    (Instr.findAsking 24 (keyV x) ((l.zipIdx i).map fun q => entAt q.1 q.2) i).run Tryz.prog w = .ok ((lookI l x i).map fun q => (q.1, Value.int .i64 q.2)) w := by
  intro l
  induction l with
  | nil => intro i; rfl
  | cons p l ih =>
    intro i
    rw [List.zipIdx_cons, List.map_cons, Instr.findAsking]
    simp only [Sem.run_bind]
    have e : (entAt p i).key = keyV p.1 := rfl
    rw [e, run_equal_node]
    simp only [Result.andThen_ok]
    unfold lookI
    cases sameN x p.1
    · simp only [Bool.false_eq_true, if_false]
      exact ih (i + 1)
    · simp only [if_true]
      rfl
theorem run_findKey (x : MNode) (w : World) (l : List (MNode × Int)) :
    (Instr.findKey 24 (keyV x) (ents l)).run Tryz.prog w = .ok ((lookI l x 0).map fun q => (q.1, Value.int .i64 q.2)) w := by
  unfold Instr.findKey
  simp only [Sem.run_bind, run_underlying und24, Result.andThen_ok]
  cases l with
  | nil => rfl
  | cons p l =>
    have e : Instr.findNow (.struct (Tryz.prog.fieldsOf 24)) (keyV x) (ents (p :: l)) 0 = none := rfl
    rw [e]
    exact run_findAsking x w (p :: l) 0
set_option maxRecDepth 100000 in
theorem run_checkKey (x : MNode) (b : Bool) (w : World) : (Instr.checkKey b 10000 24 (keyV x)).run Tryz.prog w = .ok () w := by
  have hu24 := Tryz.underlying24
  have h9 := hss9
  unfold keyV
  rw [show (10000 : Nat) = 9999 + 1 from rfl, Instr.checkKey]
  simp only [Sem.run_bind, run_underlying hu24, Result.andThen_ok]
  go_simp
  have hs : ∀ (s : ByteArray) (w : World), (Instr.checkKey b 9999 9 (.string s)).run Tryz.prog w = .ok () w := by
    intro s w
    rw [show (9999 : Nat) = 9998 + 1 from rfl, Instr.checkKey]
    simp only [Sem.run_bind, run_underlying h9, Result.andThen_ok]
    rfl
  rw [hs]
  simp only [Result.andThen_ok]
  rw [hs]
  rfl
def MapIs (w : World) (B : Nat) (l : List (MNode × Int)) : Prop := w.heap[B]? = some (.map (ents l).toArray l.length)
theorem undMap : Tryz.prog.underlying 106 = some (.map 24 3) := by kernel_rfl
theorem zeroInt (w : World) : (zeroValue 3).run Tryz.prog w = .ok (.int .i64 0) w := by kernel_rfl
theorem run_lookup_ok (x : MNode) (w : World) (B : Nat) (l : List (MNode × Int)) (h : MapIs w B l) :
    (Instr.lookup 106 (.map (some B)) (keyV x) true).run Tryz.prog w = .ok (.tuple #[.int .i64 ((lookM l x).getD 0), .bool (lookM l x).isSome]) w := by
  unfold Instr.lookup
  have hg : (getObj B).run Tryz.prog w = .ok (.map (ents l).toArray l.length) w := by
    simp [getObj, Sem.run, h]
    rw [show w.heap[B]? = _ from h]
  simp only [Sem.run_bind, run_underlying undMap, Result.andThen_ok, hg, Sem.run_pure, run_checkKey, run_findKey, List.toList_toArray]
  unfold lookM
  cases lookI l x 0 with
  | none => simp only [Option.map_none, Sem.run_bind, zeroInt, Result.andThen_ok]; rfl
  | some q => rfl
theorem run_lookup (x : MNode) (w : World) (B : Nat) (l : List (MNode × Int)) (h : MapIs w B l) :
    (Instr.lookup 106 (.map (some B)) (keyV x) false).run Tryz.prog w = .ok (.int .i64 ((lookM l x).getD 0)) w := by
  unfold Instr.lookup
  have hg : (getObj B).run Tryz.prog w = .ok (.map (ents l).toArray l.length) w := by
    simp [getObj, Sem.run, h]
    rw [show w.heap[B]? = _ from h]
  simp only [Sem.run_bind, run_underlying undMap, Result.andThen_ok, hg, Sem.run_pure, run_checkKey, run_findKey, List.toList_toArray]
  unfold lookM
  cases lookI l x 0 with
  | none => simp only [Option.map_none, Sem.run_bind, zeroInt, Result.andThen_ok]; rfl
  | some q => rfl
theorem ents_snoc (l : List (MNode × Int)) (p : MNode × Int) : ents (l ++ [p]) = ents l ++ [entAt p l.length] := by
  unfold ents
  rw [List.zipIdx_append, List.map_append]
  simp
theorem run_update_new (x : MNode) (v : Int) (w : World) (B : Nat) (l : List (MNode × Int)) (h : MapIs w B l) (hn : lookM l x = none) :
    (Instr.mapUpdate 106 (.map (some B)) (keyV x) (.int .i64 v)).run Tryz.prog w = .ok () (setBlock w B (.map (ents (l ++ [(x, v)])).toArray (l ++ [(x, v)]).length)) := by
  unfold Instr.mapUpdate
  have hg : (getObj B).run Tryz.prog w = .ok (.map (ents l).toArray l.length) w := by
    simp [getObj, Sem.run, h]
    rw [show w.heap[B]? = _ from h]
  have hl : lookI l x 0 = none := by
    unfold lookM at hn
    exact Option.map_eq_none_iff.1 hn
  simp only [Sem.run_bind, run_underlying undMap, Result.andThen_ok, hg, run_checkKey, run_findKey, List.toList_toArray, hl, Option.map_none]
  rw [ents_snoc, List.length_append]
  have hs : ∀ o, (setObj B o).run Tryz.prog w = .ok () (setBlock w B o) := fun o => by simp [setObj, Sem.run, setBlock]; rw [show w.heap[B]? = _ from h]
  rw [hs]
  simp [entAt]
end Go.Proofs.YtjfcmkddeglghaaGreatDoor.G
end
section
namespace Go.Proofs.YtjfcmkddeglghaaGreatDoor.G
open Go.RowKit Gw
set_option linter.unusedVariables false
set_option linter.unusedSimpArgs false
abbrev DMap := List (SNode × Int)
def stepD (d : Int) (level : List SNode) (st : DMap × List SNode) (x : SNeed) : DMap × List SNode :=
  if (lookM st.1 x.f1).isNone && level.any (sameN x.f0) then (st.1 ++ [(x.f1, d)], st.2 ++ [x.f1]) else st
def innerD (l : List SNeed) (d : Int) (level : List SNode) (out : DMap) : DMap × List SNode := l.foldl (stepD d level) (out, [])
def outerD (l : List SNeed) : Nat → Int → List SNode → DMap → Option DMap
  | 0, _, _, _ => none
  | n + 1, d, level, out => if level = [] then some out else outerD l n (d + 1) (innerD l d level out).2 (innerD l d level out).1
end Go.Proofs.YtjfcmkddeglghaaGreatDoor.G
end
section
namespace Go.Proofs.YtjfcmkddeglghaaGreatDoor.G
open Go.RowKit Gw Go.Proofs.YtjfcmkddeglghaaGreatDoorW.PrintWords Go.Proofs.YtjfcmkddeglghaaGreatDoorW.PrintLast Go.Proofs.YtjfcmkddeglghaaGreatDoorW.PrintMore
set_option linter.unusedVariables false
set_option linter.unusedSimpArgs false
def idxN (x : MNode) : List MNode → Nat → Int
  | [], _ => -1
  | p :: l, i => if sameN x p then (i : Int) else idxN x l (i + 1)
theorem idxN_nonneg (x : MNode) : ∀ (l : List MNode) (i : Nat), decide (idxN x l i ≥ 0) = l.any (sameN x) := by
  intro l
  induction l with
  | nil => intro i; rfl
  | cons p l ih =>
    intro i
    unfold idxN
    rw [List.any_cons]
    cases sameN x p
    · simpa using ih (i + 1)
    · simp
theorem index_node_loop (l : List MNode) (x : MNode) (hl : l.length < 9223372036854775807) : ∀ n i, i + n = l.length →
    Ev (fun k => api_Node_139.l0 k l (l.length : Int) (i : Int) x.f0 x.f1) (idxN x (l.drop i) i) := by
  intro n
  induction n with
  | zero =>
    intro i hi
    refine Ev.succ ?_
    simp only [api_Node_139.l0]
    refine Ev.neg (by omega) (Ev.some_eq ?_)
    rw [List.drop_of_length_le (by omega)]
    rfl
  | succ n ih =>
    intro i hi
    have hil : i < l.length := by omega
    refine Ev.succ ?_
    simp only [api_Node_139.l0]
    refine Ev.pos (by omega) (Ev.pos (by omega) (Ev.pos (by omega) ?_))
    have hr : rd_T24 l (i : Int) = l[i] := rdOf_at _ l i hil
    rw [hr, drop_at _ _ hil]
    unfold idxN
    by_cases h : sameN x l[i] = true
    · rw [if_pos h]
      exact Ev.pos h (Ev.some_ _)
    · rw [if_neg h]
      refine Ev.neg h ?_
      rw [w64n i (by omega)]
      exact ih (i + 1) (by omega)
theorem contains_node_ev (l : List MNode) (x : MNode) (hl : l.length < 9223372036854775807) : Ev (fun k => api_Node_111.f k l x.f0 x.f1) (l.any (sameN x)) := by
  unfold api_Node_111.f
  refine Ev.bind (index_node_loop l x hl _ 0 (Nat.zero_add _)) (Ev.some_eq ?_)
  exact idxN_nonneg x _ _
end Go.Proofs.YtjfcmkddeglghaaGreatDoor.G
end
section
namespace Go.Proofs.YtjfcmkddeglghaaGreatDoor.G
open Go.RowKit Gw Go.Proofs.YtjfcmkddeglghaaGreatDoorW.PrintWords Go.Proofs.YtjfcmkddeglghaaGreatDoorW.PrintLast
set_option linter.unusedVariables false
set_option linter.unusedSimpArgs false
theorem reps_lit {α : Type} {R : α → List Value → Prop} {size : Nat} (enc : α → List Value) (xs : List α) (h : ∀ x ∈ xs, R x (enc x)) (hs : ∀ x ∈ xs, (enc x).length = size) : Reps R size xs (xs.flatMap enc) := by
  have go : ∀ n, n ≤ xs.length → Reps R size (xs.take n) ((xs.take n).flatMap enc) := by
    intro n
    induction n with
    | zero => intro _; simp only [List.take_zero, List.flatMap_nil]; exact Reps.none _ _
    | succ n ih =>
      intro hn
      have e : xs.take (n + 1) = xs.take n ++ [xs[n]] := by rw [List.take_add_one, List.getElem?_eq_getElem (by omega)]; rfl
      rw [e, List.flatMap_append]
      have hy : xs[n] ∈ xs := List.getElem_mem _
      have := (ih (by omega)).snoc (h _ hy) (hs _ hy)
      simpa using this
  have := go xs.length (Nat.le_refl _)
  rwa [List.take_length] at this
theorem R_lit0 {α : Type} (d : Kd α) (enc : α → List Value) (henc : ∀ w base ok x, d.M w base ok x (enc x)) (e : TypeId) (W : World) (base : Nat) (xs : List α) (ok : Nat → Prop) (hb : base ≤ W.heap.size) (hm : xs.length ≤ 9223372036854775807) (hok : ok W.heap.size) :
    d.R e (W.alloc (.cells (xs.flatMap enc).toArray e)) base ok (.slice (some ⟨W.heap.size, 0, none⟩) xs.length xs.length) xs := by
  have hrep : Reps (d.M W base (fun _ => False)) d.sz xs (xs.flatMap enc) := reps_lit enc xs (fun x _ => henc _ _ _ x) (fun x _ => d.K_len (d.K_of_M (henc W base (fun _ => False) x)))
  refine ⟨fun k hk => ?_, xs.flatMap enc, ?_, ?_⟩
  · have : W.heap.size = k := by simpa [Value.ownBlock] using hk
    subst this
    exact hok
  · have h2 := World.ownsRow_lit (base := base) (e := e) (size := d.sz) W (xs.flatMap enc).toArray xs.length hb (by simpa [maxLen] using hm) (by simpa using hrep.1)
    simpa using h2
  · exact hrep.imp_ (fun p c hp => d.M_mono (fun k hk => hk.elim) (Kd.M_below hp ((Below.refl _ _).alloc (Nat.le_refl _) _)))
end Go.Proofs.YtjfcmkddeglghaaGreatDoor.G
end
section
namespace Go.Proofs.YtjfcmkddeglghaaGreatDoor.G
open Go.RowKit Gw Go.Proofs.YtjfcmkddeglghaaGreatDoorW.PrintWords Go.Proofs.YtjfcmkddeglghaaGreatDoorW.PrintLast Go.Proofs.YtjfcmkddeglghaaGreatDoorW.PrintMore
open Go.ChangeMaps (setBlock)
set_option linter.unusedVariables false
set_option linter.unusedSimpArgs false
theorem MapIs.below {w w' : World} {B : Nat} {l : DMap} (h : MapIs w B l) (hb : Below w.heap.size w w') : MapIs w' B l := (hb.block _ (Array.getElem?_eq_some_iff.1 h).1).trans h
theorem innerD_lengths' (l : List SNeed) (d : Int) (level : List SNode) : ∀ st : DMap × List SNode, (l.foldl (stepD d level) st).2.length ≤ st.2.length + l.length := by
  induction l with
  | nil => intro st; simp
  | cons x l ih =>
    intro st
    rw [List.foldl_cons]
    have := ih (stepD d level st x)
    have h2 : (stepD d level st x).2.length ≤ st.2.length + 1 := by unfold stepD; split <;> simp
    simp only [List.length_cons]
    omega
structure DSt (w : World) (B : Nat) (out : DMap) (v4 : Value) (level : List SNode) (v6 : Value) (next : List SNode) (wx : World) : Prop where
  m : MapIs wx B out
  lv : Kd.R k24 24 wx B (fun k => B < k ∧ some k ≠ v6.ownBlock) v4 level
  nx : Kd.R k24 24 wx B (fun k => B < k) v6 next
  b : Below w.heap.size w wx
  s : B < wx.heap.size
section
variable {w wr w3 w5 : World} {out q : DMap} {v4 v6 v1 : Value} {level next : List SNode} {p : SNode}
theorem DSt.calm (h : DSt w w.heap.size out v4 level v6 next wr) (hb : Below wr.heap.size wr w3) : DSt w w.heap.size out v4 level v6 next w3 :=
  ⟨h.m.below hb, Kd.R_below h.lv hb, Kd.R_below h.nx hb, below_then h.b h.b.size hb, Nat.lt_of_lt_of_le h.s hb.size⟩
theorem below_setBlock (w : World) (B : Nat) (o : Obj) : Below B w (setBlock w B o) := by
  refine ⟨rfl, rfl, rfl, by simp [setBlock], fun k hk => ?_⟩
  simp only [setBlock]
  rw [Array.getElem?_setIfInBounds_ne (by omega)]
theorem DSt.upd (h : DSt w w.heap.size out v4 level v6 next w3) (q : DMap) : DSt w w.heap.size q v4 level v6 next (setBlock w3 w.heap.size (.map (ents q).toArray q.length)) := by
  have hB : w3.heap[w.heap.size]? = some (.map (ents out).toArray out.length) := h.m
  refine ⟨Go.ChangeMaps.heap_setBlock_same hB _, Kd.R_move h.lv (fun k hk => ?_), Kd.R_move h.nx (fun k hk => ?_), h.b.trans (below_setBlock _ _ _), by have := h.s; simpa [setBlock] using this⟩
  · exact Go.ChangeMaps.heap_setBlock_other hB _ (by have := hk.1; omega)
  · exact Go.ChangeMaps.heap_setBlock_other hB _ (by omega)
theorem DSt.app (h : DSt w w.heap.size out v4 level v6 next w3) (ho : Kd.R k24 24 w5 w.heap.size (fun k => w.heap.size < k) v1 (next ++ [p])) (hb : Below w.heap.size w w5) (hg : w3.grownBy w5 v6.ownBlock)
    (hat : v1.ownBlock = v6.ownBlock ∨ ∃ b, v1.ownBlock = some b ∧ w3.heap.size ≤ b) : DSt w w.heap.size out v4 level v1 (next ++ [p]) w5 := by
  refine ⟨(hg.block _ h.s ?_).trans h.m, ?_, ho, hb, Nat.lt_of_lt_of_le h.s hg.size⟩
  · intro e
    have := h.nx.1 _ e.symm
    omega
  · refine Kd.R_mono (Kd.R_grown (Kd.R_bound h.lv) hg (fun k hk => hk.1.2)) (fun k hk => ⟨hk.1.1, ?_⟩)
    rcases hat with hat | ⟨b, hb1, hb2⟩
    · rw [hat]; exact hk.1.2
    · rw [hb1]
      intro e
      injection e with e
      have := hk.2.2.1
      omega
end
set_option maxHeartbeats 1000000 in
set_option maxRecDepth 1000000 in
theorem why_depths_calls (A0 : Option Addr) (c0 : Nat) (l : List SNeed) (r : DMap) (w : World) (hbig : l.length < 1099511627776) (hr : Kd.C k49 w A0 l.length l) (h : outerD l (l.length + 2) 1 [⟨⟨#[]⟩, ⟨#[]⟩⟩] [] = some r) :
    Calls Tryz.prog 72 #[.slice A0 l.length c0] w fun e w' => e = .returned (.map (some w.heap.size)) ∧ MapIs w' w.heap.size r ∧ Below w.heap.size w w' := by
  have hmm := @run_makeMap Tryz.prog
  have HR := Aside0.mk hr
  have H := Aside0.mk h
  clear hr h
  go_enter Tryz.func72, Tryz.ntmps72
  go_wp2
  have S0 : DSt w w.heap.size [] (.slice (some ⟨w.heap.size + 1, 0, none⟩) 1 1) [⟨⟨#[]⟩, ⟨#[]⟩⟩] (.slice none 0 0) [] ((w.alloc (.map #[] 0)).alloc (.cells #[.string ⟨#[]⟩, .string ⟨#[]⟩] 24)) := by
    refine ⟨?_, ?_, Kd.R_nil _ _ _ _ _, ?_, by simp; omega⟩
    · show ((w.alloc (.map #[] 0)).alloc _).heap[w.heap.size]? = _
      rw [Below.heap_alloc _ _ _ (by simp)]
      exact heap_alloc_new _ _
    · have h1 := R_lit0 k24 (fun x : SNode => [.string x.f0, .string x.f1]) (fun w base ok x => k24_mkM w base ok x) 24 (w.alloc (.map #[] 0)) w.heap.size [⟨⟨#[]⟩, ⟨#[]⟩⟩] (fun k => w.heap.size < k ∧ some k ≠ (Value.slice none 0 0).ownBlock) (by simp) (by simp) ⟨by simp, by simp [Value.ownBlock]⟩
      simpa using h1
    · exact ((Below.refl _ _).alloc (Nat.le_refl _) _).alloc (by simp) _
  have HS := Aside0.mk S0
  clear S0
  go_loopg [4, 5] (l.length + 2) (fun g v4 v5 wx => ∃ (level : List SNode) (out : DMap) (d : Nat), v5 = .int .i64 d ∧ d + g ≤ l.length + 3 ∧ level.length ≤ l.length + 1 ∧ Aside0 (outerD l g d level out = some r) ∧ Aside0 (DSt w w.heap.size out v4 level (.slice none 0 0) [] wx))
  case atStart => exact ⟨_, [], 1, rfl, by omega, by simp, H, HS⟩
  case round =>
    obtain ⟨level, out, d, rfl, hd, hlb, HO, HS⟩ := hrel
    obtain ⟨A, c, rfl, hlc, hC⟩ := Kd.R_reads HS.out.lv
    have HC := Aside0.mk hC
    clear hC
    cases gk with
    | zero => exact absurd HO.out (by simp [outerD])
    | succ g =>
      have ho := HO.out
      unfold outerD at ho
      by_cases hl : level = []
      · rw [if_pos hl] at ho
        have hz : ¬ ((0 : Int) < (level.length : Int)) := by rw [hl]; simp
        have HE := Aside0.mk (Option.some.inj ho)
        clear ho hl
        go_wp2
        go_ret
        exact ⟨rfl, HE.out ▸ HS.out.m, HS.out.b⟩
      · rw [if_neg hl] at ho
        have hz : (0 : Int) < (level.length : Int) := by have := List.length_pos_iff.2 hl; omega
        have hzn : 0 < level.length := List.length_pos_iff.2 hl
        have HE := Aside0.mk ho
        clear ho hl
        go_wp2
        go_loopg [6, 8, 9, 10, 21] l.length (fun gg v6 v8 v9 v10 v21 wx => ∃ i : Nat, i + gg = l.length ∧ v21 = .int .i64 i ∧ Aside0 (DSt w w.heap.size ((l.take i).foldl (stepD d level) (out, [])).1 (.slice A level.length c) level v6 ((l.take i).foldl (stepD d level) (out, [])).2 wx))
        case atStart => exact ⟨0, by omega, rfl, HS⟩
        case round =>
          obtain ⟨i, hig, rfl, HD⟩ := hrel
          cases gk with
          | zero =>
            obtain rfl : i = l.length := by omega
            have hiz : ¬ ((l.length : Int) < (l.length : Int)) := by omega
            go_wp2
            go_roundg g
            case measure => omega
            case rel =>
              have e := List.take_length (l := l)
              rw [e] at HD
              exact ⟨_, _, d + 1, by go_num, by omega, by have := innerD_lengths' l d level (out, []); unfold innerD; simpa using Nat.le_succ_of_le this, HE, ⟨⟨HD.out.m, Kd.R_mono HD.out.nx (fun k hk => ⟨hk, by simp [Value.ownBlock]⟩), Kd.R_nil _ _ _ _ _, HD.out.b, HD.out.s⟩⟩⟩
          | succ gg =>
            have hi : i < l.length := by omega
            have hiz : (i : Int) < (l.length : Int) := by omega
            obtain ⟨ad, ea, q0, q1, q2, q3⟩ := at_T49 HR.out (i : Int) (by omega) hiz
            cases ea
            have hx : rd_T49 l (i : Int) = l[i] := rdOf_at _ _ _ hi
            rw [hx] at q0 q1 q2 q3
            replace q0 := (HD.out.b.cell (World.block_lt_of_cell? w _ q0)).trans q0
            replace q1 := (HD.out.b.cell (World.block_lt_of_cell? w _ q1)).trans q1
            replace q2 := (HD.out.b.cell (World.block_lt_of_cell? w _ q2)).trans q2
            replace q3 := (HD.out.b.cell (World.block_lt_of_cell? w _ q3)).trans q3
            simp only [Int.toNat_natCast] at q0 q1 q2 q3
            have HT : Aside0 (l.take (i + 1) = l.take i ++ [l[i]]) := ⟨by rw [List.take_add_one, List.getElem?_eq_getElem hi]; rfl⟩
            clear hx
            generalize l[i] = x at q0 q1 q2 q3 HT
            generalize hst : (l.take i).foldl (stepD d level) (out, []) = st at HD
            have HST := Aside0.mk hst
            clear hst
            have hlk := fun o => run_lookup_ok x.f1 (World.alloc _ o) w.heap.size st.1 (HD.out.m.below ((Below.refl _ _).alloc (Nat.le_refl _) o))
            simp only [keyV] at hlk
            cases hlook : lookM st.1 x.f1 with
            | some v =>
              rw [hlook] at hlk
              have HL := Aside0.mk hlook
              clear hlook
              simp only [Option.isSome_some, Option.getD_some] at hlk
              go_wp2
              go_roundg gg
              case measure => omega
              case rel =>
                refine ⟨i + 1, by omega, by go_num, ⟨?_⟩⟩
                rw [HT.out, List.foldl_append, HST.out]
                have e : stepD d level st x = st := by unfold stepD; rw [HL.out]; simp
                simp only [List.foldl_cons, List.foldl_nil]
                rw [e]
                exact HD.out.calm ((Below.refl _ _).alloc (Nat.le_refl _) _)
            | none =>
              rw [hlook] at hlk
              have HL := Aside0.mk hlook
              clear hlook
              simp only [Option.isSome_none, Option.getD_none] at hlk
              have hcon : ∀ o, Calls Tryz.prog 111 #[.slice A level.length c, .agg #[.string x.f0.f0, .string x.f0.f1]] (wr.alloc o) fun e w' => e = .returned (.bool (level.any (sameN x.f0))) ∧ Below (wr.alloc o).heap.size (wr.alloc o) w' := by
                intro o
                obtain ⟨A', c', hv, hc', hC'⟩ := Kd.R_reads HD.out.lv
                cases hv
                obtain ⟨k, hk⟩ := (contains_node_ev level x.f0 (by omega)).get
                exact api_Node_111.calls k A c level x.f0.f0 x.f0.f1 _ _ (Kd.C_below hC' ((Below.refl _ _).alloc (Nat.le_refl _) o)) hlc hk
              cases hany : level.any (sameN x.f0)
              · rw [hany] at hcon
                have HA := Aside0.mk hany
                clear hany
                go_wp2_with (first | (go_at_call 111; (with_reducible refine (hcon _).mono ?_); rintro e w3 ⟨rfl, hb3⟩))
                go_roundg gg
                case measure => omega
                case rel =>
                  refine ⟨i + 1, by omega, by go_num, ⟨?_⟩⟩
                  rw [HT.out, List.foldl_append, HST.out]
                  have e : stepD d level st x = st := by unfold stepD; rw [HL.out, HA.out]; simp
                  simp only [List.foldl_cons, List.foldl_nil]
                  rw [e]
                  exact HD.out.calm (below_then ((Below.refl wr.heap.size wr).alloc (Nat.le_refl _) _) (by simp) hb3)
              · rw [hany] at hcon
                have HA := Aside0.mk hany
                clear hany
                go_wp2_with fail
                refine (hcon _).mono ?_
                rintro e w3 ⟨rfl, hb3⟩
                have hn := (hb3.block wr.heap.size (by simp)).trans (heap_alloc_new wr _)
                have b2 := cell_of_row w3 wr.heap.size 2 _ _ _ hn
                have b3 := cell_of_row w3 wr.heap.size 3 _ _ _ hn
                simp only [List.getElem?_toArray, List.getElem?_cons_zero, List.getElem?_cons_succ] at b2 b3
                have HB3 := Aside0.mk (HD.out.calm (below_then ((Below.refl wr.heap.size wr).alloc (Nat.le_refl _) _) (by simp) hb3))
                clear hb3
                have hup := run_update_new x.f1 (d : Int) w3 w.heap.size st.1 HB3.out.m HL.out
                simp only [keyV] at hup
                have HU := Aside0.mk (HB3.out.upd (st.1 ++ [(x.f1, (d : Int))]))
                have hn4 := (Go.ChangeMaps.heap_setBlock_other (show w3.heap[w.heap.size]? = _ from HB3.out.m) (.map (ents (st.1 ++ [(x.f1, (d : Int))])).toArray (st.1 ++ [(x.f1, (d : Int))]).length) (i := wr.heap.size) (by have := HD.out.s; omega)).trans hn
                generalize setBlock w3 w.heap.size (.map (ents (st.1 ++ [(x.f1, (d : Int))])).toArray (st.1 ++ [(x.f1, (d : Int))]).length) = w4 at hup HU hn4
                have d2 := cell_of_row w4 wr.heap.size 2 _ _ _ hn4
                have d3 := cell_of_row w4 wr.heap.size 3 _ _ _ hn4
                simp only [List.getElem?_toArray, List.getElem?_cons_zero, List.getElem?_cons_succ] at d2 d3
                clear hn hn4
                have HLEN : Aside0 (st.2.length ≤ l.length) := ⟨by
                  have := innerD_lengths' (l.take i) d level (out, [])
                  rw [HST.out] at this
                  have := List.length_take_le i l
                  simp at *
                  omega⟩
                go_wp2_with (first | ((with_reducible refine gate_builtin (b := .append) (xs := #[.tmp 44, .tmp 47]) rfl ?_); at_builtin; refine Kd.R_append k24 (w0 := w) w.heap.size rfl (.tmp 44) (.tmp 47) 31 24 (.agg #[(.string ⟨#[]⟩), (.string ⟨#[]⟩)]) 32 rfl Tryz.underlying31 info24 rfl (by decide) (by omega) u6 st.2 x.f1 [.string x.f1.f0, .string x.f1.f1] (fun k => w.heap.size < k) (fun _ => False) rfl rfl ?aP (fun _ hk => hk.elim) ?aF ?aO ?aB ?aS ?aL ?_; (case aP => exact k24_mkM _ _ _ x.f1); (case aF => exact (fun k hk => by have := HU.out.s; omega)); (case aO => exact HU.out.nx); (case aB => exact HU.out.b); (case aS => exact HU.out.b.size); (case aL => have := HLEN.out; omega); intro v1 w5 ho hb hg hat; have HO5 := Aside0.mk (HU.out.app ho hb hg hat); clear ho hb hg hat))
                go_roundg gg
                case measure => omega
                case rel =>
                  refine ⟨i + 1, by omega, by go_num, ⟨?_⟩⟩
                  rw [HT.out, List.foldl_append, HST.out]
                  have e : stepD d level st x = (st.1 ++ [(x.f1, (d : Int))], st.2 ++ [x.f1]) := by unfold stepD; rw [HL.out, HA.out]; simp
                  simp only [List.foldl_cons, List.foldl_nil]
                  rw [e]
                  exact HO5.out
end Go.Proofs.YtjfcmkddeglghaaGreatDoor.G
end
section
namespace Go.Proofs.YtjfcmkddeglghaaGreatDoor.G
open Go.RowKit Go.Proofs.YtjfcmkddeglghaaGreatDoorW.PrintWords Go.Proofs.YtjfcmkddeglghaaGreatDoorW.PrintLast Go.Proofs.YtjfcmkddeglghaaGreatDoorW.PrintMore
attribute [local go_sem] max2_int min2_int max_two min_two max_three min_three max_four min_four
set_option linter.unusedVariables false
set_option linter.unusedSimpArgs false
attribute [local go_sem high] eqA24
def r05_Has.l0 : Nat → List (S24) → Int → ByteArray → ByteArray → Option (Bool)
 | 0, _, _, _, _ => none
 | k + 1, x0, x5, x283000, x283001 => if x5 < (x0.length : Int) then (if 0 ≤ x5 then (if ((((rd_T24 x0 x5).f0).toList) == x283000.toList && ((((rd_T24 x0 x5).f1).toList) == x283001.toList)) = true then (some true) else (r05_Has.l0 k x0 (wrap64 (x5 + 1)) x283000 x283001)) else (none)) else (some false)
def r05_Has.f (k : Nat) (l0 : List (S24)) (a1_0 : ByteArray) (a1_1 : ByteArray) : Option (Bool) := r05_Has.l0 k l0 0 a1_0 a1_1
end Go.Proofs.YtjfcmkddeglghaaGreatDoor.G
end
section
namespace Go.Proofs.YtjfcmkddeglghaaGreatDoor.G
open Go.RowKit Gw Go.Proofs.YtjfcmkddeglghaaGreatDoorW.PrintWords Go.Proofs.YtjfcmkddeglghaaGreatDoorW.PrintLast Go.Proofs.YtjfcmkddeglghaaGreatDoorW.PrintMore
set_option linter.unusedVariables false
set_option linter.unusedSimpArgs false
theorem Ev.of_mono {α : Type} {F : Nat → Option α} {v : α} (hm : ∀ k, LeO (F k) (F (k + 1))) (k : Nat) (h : F k = some v) : Ev F v := by
  refine ⟨k, fun j hj => ?_⟩
  induction j with
  | zero => rw [show (0 : Nat) = k from by omega]; exact h
  | succ j ih =>
    by_cases e : k = j + 1
    · rw [← e]; exact h
    · have h1 := ih (by omega)
      have h2 := hm j
      rw [h1] at h2
      exact h2 _ rfl
theorem refClass_ev (c : UInt8) : Ev (fun k => r01_Class.f k (c.toNat : Int)) ((octClass c : Nat) : Int) := by
  refine Ev.of_mono (fun k => r01_Class.mono _ k) 6 ?_
  have := u8_all (fun c => r01_Class.f 6 (c.toNat : Int) == some ((octClass c : Nat) : Int)) (by decide +kernel) c
  simpa using this
theorem cls_1 (c : UInt8) : decide (octClass c = 1) = isDigit c := by
  have := u8_all (fun c => decide (octClass c = 1) == isDigit c) (by decide +kernel) c
  simpa using this
theorem cls_2 (c : UInt8) : decide (octClass c = 2) = isLetter c := by
  have := u8_all (fun c => decide (octClass c = 2) == isLetter c) (by decide +kernel) c
  simpa using this
theorem toNat_eq (c : UInt8) (n : Nat) (hn : n < 256) : ((c.toNat : Int) = (n : Int)) ↔ c = n.toUInt8 := by
  constructor
  · intro h
    have h1 : c.toNat = n := by omega
    apply UInt8.toNat_inj.1
    rw [h1]
    simp
    omega
  · intro h
    subst h
    simp
    omega
def preP (p : Str) : List Str → List Str
  | [] => [p]
  | h :: t => (p ++ h) :: t
theorem preP_nil (l : List Str) (h : l ≠ []) : preP [] l = l := by
  cases l with
  | nil => exact absurd rfl h
  | cons a t => rfl
theorem preP_cons (p : Str) (c x : UInt8) (s : Str) : preP p (parts c (x :: s)) = if x = c then p :: parts c s else preP (p ++ [x]) (parts c s) := by
  simp only [parts]
  split
  · simp [preP]
  · split
    · rename_i e; exact absurd e (parts_ne c s)
    · rename_i a t e
      simp [preP, e]
theorem refParts_loop (l : Str) (c : UInt8) (h : Sz l) : ∀ n (acc : List ByteArray) (b i : Nat), i + n = l.length → b ≤ i → acc.length ≤ b →
    Ev (fun k => r01_Parts.l0 k (ofL l) (c.toNat : Int) acc (b : Int) (i : Int)) (acc ++ (preP ((l.drop b).take (i - b)) (parts c (l.drop i))).map ofL) := by
  intro n
  induction n with
  | zero =>
    intro acc b i hi hb ha
    unfold Sz at h
    refine Ev.succ ?_
    simp only [r01_Parts.l0]
    refine Ev.neg (by rw [size_ofL]; omega) (Ev.pos (by omega) (Ev.pos (by rw [size_ofL]; omega) (Ev.pos (by omega) (Ev.some_eq ?_))))
    rw [List.drop_of_length_le (by omega : l.length ≤ i), extract_ofL, size_ofL]
    simp only [Int.toNat_natCast]
    have : i = l.length := by omega
    subst this
    simp [parts, preP]
  | succ n ih =>
    intro acc b i hi hb ha
    have hil : i < l.length := by omega
    have hsz : l.length < 4294967281 := h
    refine Ev.succ ?_
    simp only [r01_Parts.l0]
    refine Ev.pos (by rw [size_ofL]; omega) (Ev.pos (by omega) ?_)
    rw [bt_at_ofL l i hil, drop_at _ _ hil, preP_cons, w64n i (by omega)]
    by_cases e : l[i] = c
    · rw [if_pos e]
      refine Ev.pos (by rw [e]) (Ev.pos (by omega) (Ev.pos (by omega) (Ev.pos (by rw [size_ofL]; omega) (Ev.pos (by omega) ?_))))
      refine Ev.val (ih _ (i + 1) (i + 1) (by omega) (by omega) (by simp; omega)) ?_
      rw [Nat.sub_self, List.take_zero, preP_nil _ (parts_ne _ _), extract_ofL]
      simp
    · rw [if_neg e]
      refine Ev.neg (fun hc => e (UInt8.toNat_inj.1 (by omega))) ?_
      refine Ev.val (ih _ b (i + 1) (by omega) (by omega) ha) ?_
      have : (l.drop b).take (i + 1 - b) = (l.drop b).take (i - b) ++ [l[i]] := by
        rw [show i + 1 - b = (i - b) + 1 from by omega, List.take_add_one, List.getElem?_drop, show b + (i - b) = i from by omega, List.getElem?_eq_getElem hil]
        rfl
      rw [this]
theorem refParts_ev (l : Str) (c : UInt8) (h : Sz l) : Ev (fun k => r01_Parts.f k (ofL l) (c.toNat : Int)) ((parts c l).map ofL) := by
  unfold r01_Parts.f
  refine Ev.val (refParts_loop l c h l.length [] 0 0 (by omega) (by omega) (by simp)) ?_
  simp [preP_nil _ (parts_ne c l)]
theorem sz_parts (c : UInt8) (p : Str) (h : Sz p) : ∀ s ∈ parts c p, Sz s := fun s hs => by
  have := parts_mem_le c p s hs
  unfold Sz at *; omega
def digR (c : UInt8) : Int := if isDigit c then (c.toNat : Int) - 48 else -1
theorem refDigit_eq (c : UInt8) : r02_digit.f (c.toNat : Int) = some (digR c) := by
  have := u8_all (fun c => r02_digit.f (c.toNat : Int) == some (digR c)) (by decide +kernel) c
  simpa using this
theorem digR_neg (c : UInt8) : decide (digR c < 0) = !isDigit c := by
  have := u8_all (fun c => decide (digR c < 0) == !isDigit c) (by decide +kernel) c
  simpa using this
theorem refNum_loop (s : Str) (h : Sz s) : ∀ n i, i + n = s.length → Ev (fun k => r02_May.l0 k (ofL s) (i : Int)) ((s.drop i).all isDigit && (s.length == 1 || decide (1 < s.length) && s.head? != some 48)) := by
  intro n
  have hsz : s.length < 4294967281 := h
  induction n with
  | zero =>
    intro i hi
    refine Ev.succ ?_
    simp only [r02_May.l0]
    refine Ev.neg (by rw [size_ofL]; omega) ?_
    rw [List.drop_of_length_le (by omega), size_ofL]
    by_cases h1 : s.length = 1
    · exact Ev.pos (by omega) (Ev.some_eq (by simp [h1]))
    · refine Ev.neg (by omega) ?_
      by_cases h2 : 1 < s.length
      · refine Ev.pos (by omega) (Ev.pos (by omega) (Ev.some_eq ?_))
        cases s with
        | nil => simp at h2
        | cons c t =>
          rw [bt_ofL]
          have e48 := toNat_eq c 48 (by omega)
          by_cases hc : c = 48
          · subst hc; simp at h1 ⊢
            exact fun hh => absurd hh h1
          · have : ((c.toNat : Int) != 48) = true := by simpa using fun hh => hc (e48.1 hh)
            rw [this]
            simp only [List.length_cons] at h2
            simp [hc, h2]
      · refine Ev.neg (by omega) (Ev.some_eq ?_)
        simp [h1, h2]
  | succ n ih =>
    intro i hi
    have hil : i < s.length := by omega
    refine Ev.succ ?_
    simp only [r02_May.l0]
    refine Ev.pos (by rw [size_ofL]; omega) (Ev.pos (by omega) ?_)
    rw [bt_at_ofL s i hil, drop_at _ _ hil, List.all_cons]
    refine Ev.bindc (refDigit_eq _) ?_
    have hd := digR_neg s[i]
    cases hb : isDigit s[i]
    · rw [hb] at hd
      exact Ev.pos (of_decide_eq_true hd) (Ev.some_eq (by simp))
    · rw [hb] at hd
      refine Ev.neg (of_decide_eq_false hd) ?_
      rw [w64n i (by omega), Bool.true_and]
      exact ih (i + 1) (by omega)
theorem refNum_ev (s : Str) (h : Sz s) : Ev (fun k => r02_May.f k (ofL s)) (numMay s) := by
  unfold r02_May.f
  exact Ev.val (refNum_loop s h _ 0 (Nat.zero_add _)) rfl
theorem refWord_loop (s : Str) (h : Sz s) : ∀ n i (b : Bool), i + n = s.length →
    Ev (fun k => r03_Word.l0 k (ofL s) b (i : Int)) ((s.drop i).all (fun c => isDigit c || isLetter c || c == 45) && (s != [] && (numMay s || !(b && (s.drop i).all isDigit)))) := by
  intro n
  have hsz : s.length < 4294967281 := h
  induction n with
  | zero =>
    intro i b hi
    refine Ev.succ ?_
    simp only [r03_Word.l0]
    refine Ev.neg (by rw [size_ofL]; omega) ?_
    rw [List.drop_of_length_le (by omega), size_ofL]
    cases s with
    | nil => exact Ev.neg (by simp) (Ev.some_eq (by simp))
    | cons c t =>
      refine Ev.pos (by simp) ?_
      cases b
      · exact Ev.neg (by simp) (Ev.some_eq (by simp))
      · refine Ev.pos rfl (Ev.bind (refNum_ev _ h) (Ev.some_eq ?_))
        simp
  | succ n ih =>
    intro i b hi
    have hil : i < s.length := by omega
    refine Ev.succ ?_
    simp only [r03_Word.l0]
    refine Ev.pos (by rw [size_ofL]; omega) (Ev.pos (by omega) ?_)
    rw [bt_at_ofL s i hil, drop_at _ _ hil, List.all_cons, List.all_cons]
    refine Ev.bind (refClass_ev _) ?_
    have c1 := cls_1 s[i]
    have c2 := cls_2 s[i]
    have e45 := toNat_eq s[i] 45 (by omega)
    generalize s[i] = c at c1 c2 e45
    rw [w64n i (by omega)]
    by_cases h1 : octClass c = 1
    · rw [decide_eq_true h1] at c1
      refine Ev.pos (by omega) (Ev.val (ih (i + 1) b (by omega)) ?_)
      simp [← c1]
    · rw [decide_eq_false h1] at c1
      refine Ev.neg (by omega) ?_
      by_cases h2 : octClass c = 2
      · rw [decide_eq_true h2] at c2
        refine Ev.pos (by omega) (Ev.val (ih (i + 1) false (by omega)) ?_)
        simp [← c1, ← c2]
      · rw [decide_eq_false h2] at c2
        refine Ev.neg (by omega) ?_
        by_cases h3 : c = 45
        · refine Ev.pos (e45.2 h3) (Ev.val (ih (i + 1) false (by omega)) ?_)
          have h4 : (c == 45) = true := by simpa using h3
          simp [← c1, ← c2, h4]
        · refine Ev.neg (fun hh => h3 (e45.1 hh)) (Ev.some_eq ?_)
          have h4 : (c == 45) = false := by simpa using h3
          simp [← c1, ← c2, h4]
theorem refWord_ev (s : Str) (h : Sz s) : Ev (fun k => r03_Word.f k (ofL s)) (wordMay s) := by
  unfold r03_Word.f
  refine Ev.val (refWord_loop s h _ 0 true (Nat.zero_add _)) ?_
  unfold wordMay
  rw [List.drop_zero]
  cases (s != []) <;> cases s.all (fun c => isDigit c || isLetter c || c == 45) <;> simp
end Go.Proofs.YtjfcmkddeglghaaGreatDoor.G
end
section
namespace Go.Proofs.YtjfcmkddeglghaaGreatDoor.G
open Go.RowKit Gw Go.Proofs.YtjfcmkddeglghaaGreatDoorW.PrintWords Go.Proofs.YtjfcmkddeglghaaGreatDoorW.PrintLast Go.Proofs.YtjfcmkddeglghaaGreatDoorW.PrintMore
set_option linter.unusedVariables false
set_option linter.unusedSimpArgs false
def refOut : Option Ver → ByteArray × ByteArray × ByteArray × List ByteArray × Bool
  | some v => (ofL v.major, ofL v.minor, ofL v.patch, v.pre.map ofL, true)
  | none => (⟨#[]⟩, ⟨#[]⟩, ⟨#[]⟩, [], false)
theorem refSplit_words (L : List Str) (a b c : ByteArray) (hL : ∀ s ∈ L, Sz s) (hl : L.length < 9223372036854775807) : ∀ n i, i + n = L.length →
    Ev (fun k => r03_Split.l1 k (i : Int) a b c (L.map ofL)) (if (L.drop i).all wordMay then (a, b, c, L.map ofL, true) else refOut none) := by
  intro n
  induction n with
  | zero =>
    intro i hi
    refine Ev.succ ?_
    simp only [r03_Split.l1]
    refine Ev.neg (by rw [List.length_map]; omega) (Ev.some_eq ?_)
    rw [List.drop_of_length_le (by omega)]
    rfl
  | succ n ih =>
    intro i hi
    have hil : i < L.length := by omega
    refine Ev.succ ?_
    simp only [r03_Split.l1]
    refine Ev.pos (by rw [List.length_map]; omega) (Ev.pos (by omega) ?_)
    rw [rdOf_at _ _ _ (by rw [List.length_map]; exact hil), List.getElem_map, drop_at _ _ hil, List.all_cons]
    refine Ev.bind (refWord_ev _ (hL _ (List.getElem_mem hil))) ?_
    cases he : wordMay L[i]
    · exact Ev.neg (by simp) (Ev.some_eq (by simp [refOut]))
    · refine Ev.pos rfl ?_
      rw [w64n i (by omega), Bool.true_and]
      exact ih (i + 1) (by omega)
def cutAt (s : Str) (i : Nat) : Nat := i + ((s.drop i).takeWhile (· != 45)).length
theorem refSplit_scan (s : Str) (h : Sz s) (v : ByteArray × ByteArray × ByteArray × List ByteArray × Bool)
    (hv : Ev (fun k => r03_Split.l0 k (ofL s) ((cutAt s 0 : Nat) : Int) (-1) ⟨#[]⟩ ⟨#[]⟩ ⟨#[]⟩) v) : ∀ i, i ≤ s.length →
    Ev (fun k => r03_Split.l0 k (ofL s) ((cutAt s i : Nat) : Int) ((i : Int) - 1) ⟨#[]⟩ ⟨#[]⟩ ⟨#[]⟩) v := by
  have hsz : s.length < 4294967281 := h
  intro i
  induction i with
  | zero => intro _; exact hv
  | succ i ih =>
    intro hi
    have hil : i < s.length := by omega
    refine Ev.succ ?_
    simp only [r03_Split.l0]
    have e1 : ((i + 1 : Nat) : Int) - 1 = (i : Int) := by omega
    rw [e1]
    refine Ev.pos (by omega) (Ev.pos (by omega) (Ev.pos (by rw [size_ofL]; omega) ?_))
    rw [bt_at_ofL s i hil, w64 (by omega) (by omega)]
    have e45 := toNat_eq s[i] 45 (by omega)
    have hd := drop_at s i hil
    by_cases hc : s[i] = 45
    · refine Ev.pos (e45.2 hc) ?_
      have : cutAt s i = i := by
        unfold cutAt
        rw [hd, List.takeWhile_cons_of_neg (by simp [hc])]
        simp
      have ih' := ih (by omega)
      rw [this] at ih'
      exact ih'
    · refine Ev.neg (fun hh => hc (e45.1 hh)) ?_
      have : cutAt s i = cutAt s (i + 1) := by
        unfold cutAt
        rw [hd, List.takeWhile_cons_of_pos (by simp [hc])]
        simp
        omega
      have ih' := ih (by omega)
      rw [this] at ih'
      exact ih'
theorem refSplit_no (s : ByteArray) (x5 : Int) (L : List ByteArray) : Ev (fun k => r03_Split.j2 k s x5 L true ⟨#[]⟩ ⟨#[]⟩ ⟨#[]⟩) (refOut none) := by
  refine Ev.succ ?_
  simp only [r03_Split.j2]
  exact Ev.pos (by simp) (Ev.some_ _)
theorem refSplit_ev (s : Str) (h : Sz s) : Ev (fun k => r03_Split.f k (ofL s)) (refOut (verSplit s)) := by
  have hsz : s.length < 4294967281 := h
  unfold r03_Split.f
  have hj1 : Ev (fun k => r03_Split.j0 k (ofL s) true ⟨#[]⟩ ⟨#[]⟩ ⟨#[]⟩) (refOut none) := by
    refine Ev.succ ?_
    simp only [r03_Split.j0]
    exact Ev.pos (by simp) (Ev.some_ _)
  cases s with
  | nil => exact Ev.pos (by simp [size_ofL]) hj1
  | cons c r =>
    refine Ev.neg (by rw [size_ofL]; simp; omega) (Ev.pos (by rw [size_ofL]; simp) ?_)
    rw [bt_ofL]
    have e118 := toNat_eq c 118 (by omega)
    by_cases hc : c = 118
    · subst hc
      have : (((118 : UInt8).toNat : Int) != 118) = false := rfl
      rw [this]
      refine Ev.succ ?_
      simp only [r03_Split.j0]
      refine Ev.neg (by simp) ?_
      have hr : Sz r := by unfold Sz at *; simp at h; omega
      have hlen : (118 :: r).length = r.length + 1 := rfl
      have hcl : cutAt (118 :: r) (118 :: r).length = (118 :: r).length := by unfold cutAt; rw [List.drop_of_length_le (Nat.le_refl _)]; rfl
      have hc0 : cutAt (118 :: r) 0 = (r.takeWhile (· != 45)).length + 1 := by
        unfold cutAt
        rw [List.drop_zero, List.takeWhile_cons_of_pos (by decide)]
        simp
      have go := refSplit_scan (118 :: r) h (refOut (verSplit (118 :: r))) ?_ (118 :: r).length (Nat.le_refl _)
      · rw [hcl] at go
        rw [size_ofL, w64 (by omega) (by omega)]
        exact go
      refine Ev.succ ?_
      simp only [r03_Split.l0]
      refine Ev.neg (by omega) ?_
      rw [hc0]
      have htl : (r.takeWhile (· != 45)).length ≤ r.length := (List.takeWhile_sublist (fun x : UInt8 => x != 45) (l := r)).length_le
      refine Ev.pos (by omega) (Ev.pos (by rw [size_ofL, hlen]; omega) ?_)
      have hsplit : r.takeWhile (· != 45) ++ r.dropWhile (· != 45) = r := List.takeWhile_append_dropWhile
      have ht : Sz (r.takeWhile (· != 45)) := by unfold Sz at *; omega
      have hd : (r.dropWhile (· != 45)).length ≤ r.length := (List.dropWhile_sublist (fun x : UInt8 => x != 45) (l := r)).length_le
      have ex : (ofL (118 :: r)).extract 1 (((r.takeWhile (· != 45)).length + 1 : Nat) : Int).toNat = ofL (r.takeWhile (· != 45)) := by
        rw [extract_ofL, Int.toNat_natCast, Nat.add_sub_cancel]
        congr 1
        show r.take _ = _
        conv => lhs; arg 2; rw [← hsplit]
        exact List.take_left
      rw [ex]
      refine Ev.bind (refParts_ev _ 46 ht) ?_
      have hsp := sz_parts 46 _ ht
      have hv : verSplit (118 :: r) = match parts 46 (r.takeWhile (· != 45)) with
        | [a, b, c] => if numMay a && numMay b && numMay c then (match r.dropWhile (· != 45) with
            | [] => some ⟨a, b, c, []⟩
            | _ :: q => if (parts 46 q).all wordMay then some ⟨a, b, c, parts 46 q⟩ else none) else none
        | _ => none := rfl
      rw [hv]
      clear hv ex hc0 hcl
      have hlen2 : (r.takeWhile (· != 45)).length + (r.dropWhile (· != 45)).length = r.length := by rw [← List.length_append, hsplit]
      have hdrop : r.drop (r.takeWhile (· != 45)).length = r.dropWhile (· != 45) := by
        conv => lhs; arg 2; rw [← hsplit]
        exact List.drop_left
      generalize (r.takeWhile (· != 45)).length = T at htl hlen2 hdrop ⊢
      generalize parts 46 (r.takeWhile (· != 45)) = P at hsp ⊢
      generalize r.dropWhile (· != 45) = D at hd hlen2 hdrop ⊢
      have hno := fun L => refSplit_no (ofL (118 :: r)) ((T + 1 : Nat) : Int) L
      match P, hsp with
      | [], _ => exact Ev.neg (by simp) (hno _)
      | [_], _ => exact Ev.neg (by simp) (hno _)
      | [_, _], _ => exact Ev.neg (by simp) (hno _)
      | _ :: _ :: _ :: _ :: _, _ => exact Ev.neg (by simp; omega) (hno _)
      | [a, b, c], hsp =>
        have ha : Sz a := hsp a (by simp)
        have hb : Sz b := hsp b (by simp)
        have hc : Sz c := hsp c (by simp)
        show Ev _ (refOut (if (numMay a && numMay b && numMay c) = true then (match (generalizing := false) D with
            | [] => some ⟨a, b, c, []⟩
            | _ :: q => if (parts 46 q).all wordMay then some ⟨a, b, c, parts 46 q⟩ else none) else none))
        have r0 : rdOf ByteArray.empty ([a, b, c].map ofL) 0 = ofL a := rfl
        have r1 : rdOf ByteArray.empty ([a, b, c].map ofL) 1 = ofL b := rfl
        have r2 : rdOf ByteArray.empty ([a, b, c].map ofL) 2 = ofL c := rfl
        refine Ev.pos (by simp) (Ev.pos (by simp) ?_)
        rw [r0]
        refine Ev.bind (refNum_ev a ha) ?_
        cases numMay a
        · exact Ev.neg (by simp) (Ev.val (hno _) (by simp))
        refine Ev.pos rfl (Ev.pos (by simp) ?_)
        rw [r1]
        refine Ev.bind (refNum_ev b hb) ?_
        cases numMay b
        · exact Ev.neg (by simp) (Ev.val (hno _) (by simp))
        refine Ev.pos rfl (Ev.pos (by simp) ?_)
        rw [r2]
        refine Ev.bind (refNum_ev c hc) ?_
        cases numMay c
        · exact Ev.val (hno _) (by simp)
        simp only [Bool.and_self, if_true, Bool.not_true]
        refine Ev.succ ?_
        simp only [r03_Split.j2]
        refine Ev.neg (by simp) (Ev.pos (by simp) (Ev.pos (by simp) (Ev.pos (by simp) ?_)))
        rw [r0, r1, r2, size_ofL, hlen]
        cases D with
        | nil =>
          simp only [List.length_nil] at hlen2
          exact Ev.pos (by omega) (Ev.some_ _)
        | cons x q =>
          simp only [List.length_cons] at hlen2 hd
          refine Ev.neg (by omega) ?_
          rw [w64n (T + 1) (by omega)]
          refine Ev.pos (by omega) (Ev.pos (by omega) ?_)
          have hq : Sz q := by unfold Sz at *; omega
          have ex2 : (ofL (118 :: r)).extract ((T + 1 + 1 : Nat) : Int).toNat (r.length + 1) = ofL q := by
            rw [extract_ofL, Int.toNat_natCast]
            congr 1
            show (r.drop (T + 1)).take _ = _
            rw [← List.drop_drop, hdrop]
            show q.take _ = q
            exact List.take_of_length_le (by omega)
          rw [ex2]
          refine Ev.bind (refParts_ev q 46 hq) ?_
          have := parts_len 46 q
          have h2 := refSplit_words (parts 46 q) (ofL a) (ofL b) (ofL c) (sz_parts 46 q hq) (by unfold Sz at hq; omega) _ 0 (Nat.zero_add _)
          refine Ev.val h2 ?_
          rw [List.drop_zero]
          show _ = refOut (if (parts 46 q).all wordMay = true then some ⟨a, b, c, parts 46 q⟩ else none)
          cases (parts 46 q).all wordMay <;> rfl
    · have h1 : ((c.toNat : Int) != 118) = true := by simpa using fun hh => hc (e118.1 hh)
      rw [h1]
      refine Ev.val hj1 ?_
      have : verSplit (c :: r) = none := by
        unfold verSplit
        split
        · rename_i e; injection e with e1 _; exact absurd e1 hc
        · rfl
      rw [this]
end Go.Proofs.YtjfcmkddeglghaaGreatDoor.G
end
