/- For every list of needs and every node WhyTells returns true, as the card says: how far nodes are away, and the chain to a node, are as the document says, or the error is. Condition: when the call begins, utf8.acceptRanges and utf8.first hold what Go's own text lays. -/
import Derived.ChangeArms
import Derived.Deep.Slices
import Derived.LaidOnce
import Derived.Lay
import Derived.OpenShut
import Derived.ProofKit
import Derived.SevenTiedAt
import Derived.Test.YtjfcmkddeglghaaGreatDoorCards
import Derived.Test.YtjfcmkddeglghaaGreatDoorRows
import Derived.Test.YtjfcmkddeglghaaGreatDoorTie
import Derived.WalkKit
import Derived.WideShapes
import Derived.Test.YtjfcmkddeglghaaGreatDoorKa1
import Derived.Test.YtjfcmkddeglghaaGreatDoorKa2
import Derived.Test.YtjfcmkddeglghaaGreatDoorKa3
import Derived.Test.YtjfcmkddeglghaaGreatDoorKa5
import Derived.Test.YtjfcmkddeglghaaGreatDoorKa6
import Derived.Test.YtjfcmkddeglghaaGreatDoorKa61
import Derived.Test.YtjfcmkddeglghaaGreatDoorKa62
import Derived.Test.YtjfcmkddeglghaaGreatDoorKa7
import Derived.Test.YtjfcmkddeglghaaGreatDoorKa8
section
namespace Go.Proofs.YtjfcmkddeglghaaGreatDoor.whyTells
open Go.ChangeShapes Go.WideShapes Go.ChangeAt Go.RowKit Go.Proofs.YtjfcmkddeglghaaGreatDoor.G Go.Proofs.YtjfcmkddeglghaaGreatDoorW.PrintWords
set_option linter.unusedVariables false
theorem own : ownKnob Tryz.prog.godebug = none := by kernel_rfl
theorem laidOut : laidOutB Tryz.prog = true := by kernel_rfl
set_option maxRecDepth 100000 in
theorem law (l : List SNeed) (x : SNode) (A : Option Addr) (c : Nat) (w : World) (hC : Kd.C k49 w A l.length l) (hc : l.length ≤ c) :
    Calls Tryz.prog 3 #[.slice A l.length c, .agg #[.string x.f0, .string x.f1]] w fun e w' => e = .returned (.bool true) ∧ Below w.heap.size w w' := by
  obtain ⟨k, hk⟩ := (WhyTells_ev l x.f0 x.f1).get
  exact w19_WhyTells.calls k A c l x.f0 x.f1 true w hC hc hk
set_option maxRecDepth 100000 in
theorem lifted (os : Os) (started : os.Started) (H : Type) (enc : TypeId × Value → H) :
    ReturnsInHanded {} Tryz.checked os 3 .any (fun w args => (Rows.whyTellsSpec.pre enc Tryz.prog Tryz.f3 Rows.whyTellsRow.domain false w args ∧ laidMetH Tryz.prog Rows.whyTellsRow.laid w) ∧ sizedMet enc Tryz.prog Tryz.f3 (OpenSpec.ofChange Rows.whyTellsSpec) false w args)
      (Rows.whyTellsSpec.post enc Tryz.prog Tryz.f3 false true false false) := by
  refine returnsInHanded_of_change_and (C := Tryz.checked) (X := fun w _ => laidMetH Tryz.prog Rows.whyTellsRow.laid w) (fun _ _ _ hh h => h.of_heap hh) own started (by kernel_rfl) Tryz.func3
    (ChangeSpec.witness_shaped (enc := enc) (C := Tryz.checked) (os := os) (X := fun w _ => laidMetH Tryz.prog Rows.whyTellsRow.laid w) false (World.laidAll Tryz.prog os Rows.whyTellsRow.laid) #[.slice none 0 0, .agg #[.string ByteArray.empty, .string ByteArray.empty]] 8 (World.laidAll_os _ _ _)
      (World.shaped_of_ZipB (by kernel_rfl) (by kernel_rfl)) (by kernel_rfl) (by kernel_rfl) (by kernel_rfl)
      (by rw [MakeChecks.laidMetH_plain _ _ _ (by kernel_rfl)]; exact laidMet_laidAll _ (by kernel_rfl) (by kernel_rfl))) ?_
  intro W base args ds gs before hval0 hW _ _ hL _
  have hval : ∀ (j : Nat) t v, Tryz.f3.params[j]? = some t → args[j]? = some v → Value.okWide Tryz.prog W .any base t v := hval0
  have hW' := hW
  obtain ⟨p, q, hA0, hV, rfl, _, _⟩ := hW
  have hA : DataW.TrodAll enc Tryz.prog W 0 (fun _ => true) true Tryz.f3.params.toList args.toList ds p := hA0
  rw [Tryz.params3] at hA hval
  obtain ⟨v0, v1, d0, d1, p0, p1, rfl, rfl, rfl, h0, h1⟩ := trodAll_two hA
  obtain ⟨rfl, rfl⟩ := trodVars_none hV
  obtain ⟨a0, len0, cap0, rfl⟩ := okWide_slice Tryz.underlying22 (hval 0 22 v0 rfl rfl)
  have k0 := h0
  have k1 := h1
  have lt0 : ∀ x ∈ p0, x.block < W.heap.size := by obtain ⟨m, hm⟩ := k0; exact DataW.trod_lt m _ _ _ hm
  have lt1 : ∀ x ∈ p1, x.block < W.heap.size := by obtain ⟨m, hm⟩ := k1; exact DataW.trod_lt m _ _ _ hm
  obtain ⟨l, rfl, hcap, hC⟩ := C_needs h0
  obtain ⟨x, rfl⟩ := agg_node (hval 1 24 v1 rfl rfl) h1
  refine (law l x a0 cap0 W hC hcap).mono fun e W' ⟨he, bel⟩ => ?_
  subst he
  exact ⟨_, rfl, _, _, _, [], _, [], hW', trodAll_mk1 (shut_bool Tryz.underlying4 _), trodAll_mk2 (Below.trod laidOut (by kernel_rfl) (of_decide_eq_true (by kernel_rfl)) k0 bel lt0) (Below.trod laidOut (by kernel_rfl) (of_decide_eq_true (by kernel_rfl)) k1 bel lt1), rfl, bel.frame _, fun h => by cases h⟩
theorem over : Rows.WhyTellsSaid :=
  OpenClaim.holds_of_wide 3 Tryz.f3 rfl rfl rfl rfl rfl rfl rfl ⟨rfl, rfl, rfl, rfl, rfl⟩ rfl rfl rfl rfl rfl (by kernel_rfl) Tryz.func3 (by kernel_rfl)
    (of_decide_eq_true (by kernel_rfl)) (by unfold Func.isWrapper; first | (rw [if_pos (by decide +kernel)]; kernel_rfl) | (rw [if_neg (by decide +kernel)]; exact ⟨rfl, rfl⟩))
    (fun os started H enc _ => lifted os started H enc)
theorem card : Rows.WhyTellsCardSaid :=
  Claim7.holds_tied_plain_at .later [] [.data, .pinned] true (true, "f721c666ab31949d08bfea188f487a0fa410c9dfb6ad7294aa2128bfd97badc3") false over (fun _ h => by cases h) (by kernel_rfl) (fun _ h => by cases h) whyTells_row_tie rfl ⟨rfl, rfl⟩ (by kernel_rfl) rfl
    (fun f fn hf hfn => by
      obtain rfl : f = 3 := Option.some.inj ((show Tryz.prog.funcNamed "graftwood/graftwoodlaw19.WhyTells" = some 3 by kernel_rfl).symm.trans hf) |>.symm
      obtain rfl : fn = Tryz.f3 := (Option.some.inj (Tryz.func3.symm.trans hfn)).symm
      exact ⟨by kernel_rfl, fun j t ht => by
        rw [Tryz.params3] at ht
        have hm : t ∈ [22, 24] := by simpa using Array.mem_of_getElem? ht
        have hall : ([22, 24].all fun u => !Tryz.prog.wantsStandIn u) = true := by kernel_rfl
        exact (show Tryz.prog.wantsStandIn t = false by simpa using List.all_eq_true.1 hall t hm)⟩)
    (by kernel_rfl)
end Go.Proofs.YtjfcmkddeglghaaGreatDoor.whyTells
end
#print axioms Go.Proofs.YtjfcmkddeglghaaGreatDoor.whyTells.card
