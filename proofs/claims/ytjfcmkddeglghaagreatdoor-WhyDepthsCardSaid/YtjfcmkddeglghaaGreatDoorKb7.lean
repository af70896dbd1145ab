/- For every list of needs WhyDepths returns true, as the card says: how far a node is away is how long its chain is; what the root needs is 1 away; no need leads more than one further. Condition: when the call begins, utf8.acceptRanges and utf8.first hold what Go's own text lays. (part 7 of its proof) -/
import Derived.BigQuiet
import Derived.Deep.CutBlock
import Derived.Deep.DeepCutAuto
import Derived.Deep.LoopGhost
import Derived.Deep.QuietTactic
import Derived.Deep.RegionHeld3
import Derived.Ground.SlgfProg
import Derived.Ground.SlsfProg
import Derived.IntWalk
import Derived.Laws.Cover1
import Derived.Lib.Hide
import Derived.Lib.Walk
import Derived.Shelf.SlGeneric
import Derived.Shelf.SlSortCmp.NoneTotal
import Derived.Shelf.SlSortCmp.WholeK
import Derived.Shelf.SlicesQ.IndexFunc
import Derived.Test.YtjfcmkddeglghaaGreatDoorProg
import Derived.Test.YtjfcmkddeglghaaGreatDoorKb1
import Derived.Test.YtjfcmkddeglghaaGreatDoorKb4
import Derived.Test.YtjfcmkddeglghaaGreatDoorKb5
import Derived.Test.YtjfcmkddeglghaaGreatDoorKb6
section
namespace Go.Proofs.YtjfcmkddeglghaaGreatDoor.G
open Go.RowKit Gw Go.Proofs.YtjfcmkddeglghaaGreatDoorW.PrintWords Go.Proofs.YtjfcmkddeglghaaGreatDoorW.PrintLast
open Go.Sort (putRow putCells mapBlock onCells HoldsK putRowK flatK size_flatK get_flatK grow PermIn SortedIn SWO Holds)
set_option linter.unusedVariables false
set_option linter.unusedSimpArgs false
structure FlatK {α : Type} (d : Kd α) (enc : α → List Value) : Prop where
  mk' : ∀ w base ok x, d.M w base ok x (enc x)
  inv : ∀ w base ok x cs, d.M w base ok x cs → cs = enc x
  pos : 0 < d.sz
theorem FlatK.len {α : Type} {d : Kd α} {enc : α → List Value} (F : FlatK d enc) (w : World) (x : α) : (enc x).length = d.sz := d.K_len (d.K_of_M (F.mk' w 0 (fun _ => True) x))
theorem FlatK.one {α : Type} {d : Kd α} {enc : α → List Value} (F : FlatK d enc) (w : World) (x : α) : ∀ v ∈ enc x, v.oneCell' = true := d.K_one (d.K_of_M (F.mk' w 0 (fun _ => True) x))
section
variable {α β : Type} [Inhabited β] {d : Kd α} {enc : α → List Value} {f : β → α} {e base : Nat} {w : World} {ok : Nat → Prop} {g n cap : Nat}
theorem flat_get (F : FlatK d enc) (w : World) (D : Array β) (t : Nat) (ht : t < D.size * d.sz) :
    (flatK (fun b => enc (f b)) d.sz D)[t]! = (enc (f D[t / d.sz]!))[t % d.sz]! := get_flatK _ _ _ _ ht
theorem flat_reps (F : FlatK d enc) (w : World) (D : Array β) : Reps (fun x c => c = enc x) d.sz (D.toList.map f) (flatK (fun b => enc (f b)) d.sz D).toList := by
  refine ⟨by simp, fun j p hj => ?_⟩
  have hp := F.pos
  obtain ⟨hjl, hjp⟩ := List.getElem?_eq_some_iff.1 hj
  simp only [List.length_map, Array.length_toList] at hjl
  have hle : (j + 1) * d.sz ≤ D.size * d.sz := Nat.mul_le_mul_right _ hjl
  rw [Nat.succ_mul] at hle
  apply List.ext_getElem
  · rw [F.len w]
    simp
    omega
  · intro i h1 h2
    have hi : i < d.sz := by rw [F.len w] at h2; exact h2
    have hlt : j * d.sz + i < D.size * d.sz := by omega
    have e1 := flat_get (f := f) F w D (j * d.sz + i) hlt
    have e2 : (j * d.sz + i) / d.sz = j := by
      rw [Nat.mul_comm, Nat.mul_add_div hp, Nat.div_eq_of_lt hi]
      rfl
    have e3 : (j * d.sz + i) % d.sz = i := by rw [Nat.mul_comm, Nat.mul_add_mod, Nat.mod_eq_of_lt hi]
    rw [e2, e3] at e1
    rw [getElem!_pos _ _ (by simpa using hlt)] at e1
    have e4 : D[j]! = D[j] := getElem!_pos D j hjl
    have e5 : f D[j] = p := by simpa using hjp
    rw [e4, e5, getElem!_pos (enc p) i h2] at e1
    simp only [List.getElem_take, List.getElem_drop, Array.getElem_toList]
    exact e1
theorem R_reps (F : FlatK d enc) {xs : List α} (h : d.R e w base ok (.slice (some ⟨g, 0, none⟩) n cap) xs) : n = xs.length ∧ base ≤ g ∧ ok g ∧ n ≤ cap ∧ cap ≤ maxLen ∧ ∃ cur, w.heap[g]? = some (.cells cur e (0, 0)) ∧ cur.size = cap * d.sz ∧ Reps (fun x c => c = enc x) d.sz xs (cur.toList.take (n * d.sz)) := by
  obtain ⟨h0, inner, ho, hr⟩ := h
  obtain ⟨hl, ho⟩ := ho
  rcases ho with ⟨hv, _⟩ | ⟨g', cap', cur, hv, hb, hh, h1, h2, h3, h4⟩
  · cases hv
  · injection hv with hv1 hv2 hv3
    injection hv1 with hv1
    injection hv1 with hv1
    subst hv1 hv3
    have hn : n = xs.length := hv2
    subst hn
    exact ⟨rfl, hb, h0 _ rfl, h1, h2, cur, hh, h3, by rw [h4]; exact hr.imp_ (fun p c hp => F.inv _ _ _ _ _ hp)⟩
theorem R_holds (F : FlatK d enc) (D : Array β) (h : d.R e w base ok (.slice (some ⟨g, 0, none⟩) n cap) (D.toList.map f)) : n = D.size ∧ base ≤ g ∧ g < w.heap.size ∧ HoldsK (fun b => enc (f b)) d.sz w g 0 D := by
  obtain ⟨hn, hb, _, h1, h2, cur, hh, h3, hr⟩ := R_reps F h
  have hn' : n = D.size := by simpa using hn
  subst hn'
  refine ⟨rfl, hb, (Array.getElem?_eq_some_iff.1 hh).1, fun t ht => ?_⟩
  have hp := F.pos
  rw [size_flatK] at ht
  refine ⟨?_, by simp [World.frozen?, hh]⟩
  simp only [World.cell?, hh, Nat.zero_add, Option.isSome_none, Bool.false_eq_true, if_false]
  have hj : t / d.sz < D.size := Nat.div_lt_of_lt_mul (by rw [Nat.mul_comm]; exact ht)
  have hm : t % d.sz < d.sz := Nat.mod_lt _ hp
  have hq := hr.2 (t / d.sz) (f D[t / d.sz]!) (by
    rw [List.getElem?_map, Array.getElem?_toList, Array.getElem?_eq_getElem hj, getElem!_pos D _ hj]
    rfl)
  have e1 : t = t / d.sz * d.sz + t % d.sz := by rw [Nat.mul_comm]; exact (Nat.div_add_mod t d.sz).symm
  have e2 := congrArg (fun l => l[t % d.sz]?) hq
  simp only [List.getElem?_take_of_lt hm, List.getElem?_drop] at e2
  rw [← e1, List.getElem?_take_of_lt ht] at e2
  rw [flat_get F w D t ht]
  have hlen : t % d.sz < (enc (f D[t / d.sz]!)).length := by rw [F.len w]; exact hm
  rw [List.getElem?_eq_getElem hlen] at e2
  rw [← Array.getElem?_toList, e2]
  exact congrArg some (getElem!_pos (enc (f D[t / d.sz]!)) (t % d.sz) hlen).symm
theorem heap_sortedK {cur : Array Value} {fr : Nat × Nat} (encK : β → List Value) (k m : Nat) (D : Array β) (os : Array Obj) (hb : w.heap[g]? = some (.cells cur e fr)) :
    (sortWorldK encK k w g 0 m D os).heap[g]? = some (.cells (putCells id 0 (flatK encK k D) cur) e fr) := by
  have hg : g < w.heap.size := (Array.getElem?_eq_some_iff.1 hb).1
  unfold sortWorldK putRowK
  rw [Go.Sort.heap_grow_old _ _ (by simpa using hg)]
  simp [putRow, mapBlock, Go.Sort.ahead, Array.getElem?_modify, hb, onCells]
theorem grownBy_sortedK (encK : β → List Value) (k m : Nat) (D : Array β) (os : Array Obj) : w.grownBy (sortWorldK encK k w g 0 m D os) (some g) := by
  refine ⟨rfl, rfl, rfl, ?_, fun j hj hne => ?_⟩
  · unfold sortWorldK putRowK
    simp
  · unfold sortWorldK putRowK
    rw [Go.Sort.heap_grow_old _ _ (by simpa using hj)]
    have : g ≠ j := fun e => hne (by rw [e])
    simp [putRow, mapBlock, Go.Sort.ahead, Array.getElem?_modify, this]
theorem R_sorted (F : FlatK d enc) {xs : List α} (D : Array β) (m : Nat) (os : Array Obj) (h : d.R e w base ok (.slice (some ⟨g, 0, none⟩) n cap) xs) (hs : D.size = xs.length) :
    d.R e (sortWorldK (fun b => enc (f b)) d.sz w g 0 m D os) base ok (.slice (some ⟨g, 0, none⟩) n cap) (D.toList.map f) := by
  obtain ⟨hn, hb, hok, h1, h2, cur, hh, h3, hr⟩ := R_reps F h
  subst hn
  have hp := F.pos
  have hlen : (D.toList.map f).length = xs.length := by simpa using hs
  have hmul : xs.length * d.sz ≤ cap * d.sz := Nat.mul_le_mul_right _ h1
  have hin : ((putCells id 0 (flatK (fun b => enc (f b)) d.sz D) cur).toList.take (xs.length * d.sz)) = (flatK (fun b => enc (f b)) d.sz D).toList := by
    apply List.ext_getElem
    · have q1 : (putCells id 0 (flatK (fun b => enc (f b)) d.sz D) cur).toList.length = cap * d.sz := by rw [Array.length_toList]; simp only [putCells, Array.size_mapIdx, h3]
      have q2 : (flatK (fun b => enc (f b)) d.sz D).toList.length = xs.length * d.sz := by rw [Array.length_toList, size_flatK, hs]
      rw [List.length_take, q1, q2]
      omega
    · intro t q1 q2
      have q3 : t < D.size * d.sz := by simpa using q2
      simp only [List.getElem_take, Array.getElem_toList]
      simp only [putCells, Array.getElem_mapIdx, Nat.zero_le, Nat.zero_add, true_and, size_flatK, q3, if_true, Nat.sub_zero, id_eq]
      rw [getElem!_pos _ _ (by simpa using q3)]
  refine ⟨fun k hk => ?_, (flatK (fun b => enc (f b)) d.sz D).toList, ?_, ?_⟩
  · have : g = k := by simpa [Value.ownBlock] using hk
    subst this
    exact hok
  · refine ⟨by simp, .inr ⟨g, cap, putCells id 0 (flatK (fun b => enc (f b)) d.sz D) cur, by rw [hlen], hb, heap_sortedK _ _ _ _ _ hh, by rw [hlen]; exact h1, h2, by simp [putCells, h3], ?_⟩⟩
    rw [hlen]
    exact hin
  · refine (flat_reps (f := f) F w D).imp_ (fun p c hc => ?_)
    subst hc
    exact F.mk' _ _ _ p
end
theorem flatN : FlatK k24 (fun x : S24 => [.string x.f0, .string x.f1]) := ⟨fun w base ok x => k24_mkM w base ok x, fun w base ok x cs h => k24_open (Kd.K_of_M _ h), by decide⟩
theorem flatD : FlatK k46 (fun x : S46 => [.string x.f0.f0, .string x.f0.f1, .int .i64 x.f1]) := ⟨fun w base ok x => k46_mkM w base ok x, fun w base ok x cs h => k46_open (Kd.K_of_M _ h), by decide⟩
theorem grow_of_below {W w' : World} (hb : Below W.heap.size W w') (hd : W.drawn ≤ w'.drawn) : ∃ q os, w' = grow (W.drewN q) os := by
  refine ⟨w'.drawn - W.drawn, w'.heap.extract W.heap.size w'.heap.size, ?_⟩
  obtain ⟨H, t, dr, o, out⟩ := w'
  obtain ⟨H0, t0, dr0, o0, out0⟩ := W
  have e1 : t = t0 := hb.tape
  have e2 : o = o0 := hb.os
  have e3 : out = out0 := hb.output
  subst e1 e2 e3
  have hs : H0.size ≤ H.size := hb.size
  have hd' : dr0 ≤ dr := hd
  have hh : H = H0 ++ H.extract H0.size H.size := by
    apply Array.ext_getElem?
    intro i
    by_cases hi : i < H0.size
    · rw [Array.getElem?_append_left hi]
      exact hb.block i hi
    · rw [Array.getElem?_append_right (by omega), Array.getElem?_extract]
      by_cases h2 : i < H.size
      · rw [if_pos (by omega)]
        congr 1
        omega
      · rw [if_neg (by omega), Array.getElem?_eq_none (by omega)]
  show (⟨H, t, dr, o, out⟩ : World) = ⟨H0 ++ H.extract H0.size H.size, t, dr0 + (dr - dr0), o, out⟩
  rw [← hh, Nat.add_sub_cancel' hd']
end Go.Proofs.YtjfcmkddeglghaaGreatDoor.G
end
section
namespace Go.Proofs.YtjfcmkddeglghaaGreatDoor.G
open Go.RowKit Go.Proofs.YtjfcmkddeglghaaGreatDoorW.PrintWords Go.Proofs.YtjfcmkddeglghaaGreatDoorW.PrintLast
set_option linter.unusedVariables false
set_option linter.unusedSimpArgs false
theorem cmp_isNaN_string.exact (a0 : ByteArray) (w : World) :
    Calls Tryz.prog 177 #[.string a0] w fun e w' => e = .returned (.bool false) ∧ w' = w := by
  go_enter Tryz.func177, Tryz.ntmps177
  go_wp2
  go_ret
  exact ⟨by first | rfl | simp, rfl⟩
def cmp_Compare_string.f (a0 : ByteArray) (a1 : ByteArray) : Option (Int) := some (if (Op.bytesLess a0.toList a1.toList) = true then (-1) else (if (a0.toList == a1.toList) = true then 0 else 1))
set_option maxHeartbeats 8000000 in
set_option maxRecDepth 100000 in
theorem cmp_Compare_string.calls (a0 : ByteArray) (a1 : ByteArray) (r : Int) (w : World) (h : cmp_Compare_string.f a0 a1 = some r) :
    Calls Tryz.prog 156 #[.string a0, .string a1] w fun e w' => e = .returned (.int .i64 r) ∧ Drawn0 w w' := by
  obtain rfl := Option.some.inj h
  clear h
  cases c8b0 : Op.bytesLess a0.toList a1.toList
  · cases c9b0 : a0.toList == a1.toList
    · go_enter Tryz.func156, Tryz.ntmps156
      go_wp2_with (go_at_call 177; refine (cmp_isNaN_string.exact _ _).mono ?_; rintro e w' ⟨rfl, hw⟩; rw [hw])
      go_ret
      exact ⟨rfl, Drawn0.refl _⟩
    · go_enter Tryz.func156, Tryz.ntmps156
      go_wp2_with (go_at_call 177; refine (cmp_isNaN_string.exact _ _).mono ?_; rintro e w' ⟨rfl, hw⟩; rw [hw])
      go_ret
      exact ⟨rfl, Drawn0.refl _⟩
  · go_enter Tryz.func156, Tryz.ntmps156
    go_wp2_with (go_at_call 177; refine (cmp_isNaN_string.exact _ _).mono ?_; rintro e w' ⟨rfl, hw⟩; rw [hw])
    go_ret
    exact ⟨rfl, Drawn0.refl _⟩
end Go.Proofs.YtjfcmkddeglghaaGreatDoor.G
end
section
namespace Go.Proofs.YtjfcmkddeglghaaGreatDoor.G
open Go.RowKit Go.Proofs.YtjfcmkddeglghaaGreatDoorW.PrintWords Go.Proofs.YtjfcmkddeglghaaGreatDoorW.PrintLast Go.Proofs.YtjfcmkddeglghaaGreatDoorW.PrintMore
attribute [local go_sem] max2_int min2_int max_two min_two max_three min_three max_four min_four
set_option linter.unusedVariables false
set_option linter.unusedSimpArgs false
def octet_Cmp.f (a0 : ByteArray) (a1 : ByteArray) : Option (Int) := (cmp_Compare_string.f a0 a1).bind fun t168 => (some t168)
set_option maxHeartbeats 8000000 in
set_option maxRecDepth 100000 in
theorem octet_Cmp.calls (a0 : ByteArray) (a1 : ByteArray) (r : Int) (w : World) (h : octet_Cmp.f a0 a1 = some r) :
  Calls Tryz.prog 122 #[.string a0, .string a1] w fun e w' => e = .returned (.int .i64 r) ∧ Drawn0 w w' := by
 have H : ((cmp_Compare_string.f a0 a1).bind fun t168 => (some t168)) = some r := h
 clear h
 obtain ⟨t168, A3, H⟩ := bo H
 obtain rfl := Option.some.inj H
 go_enter Tryz.func122, Tryz.ntmps122
 go_wp2_with (first | ((with_reducible refine gate_callee (f := 156) rfl ?_); refine gl 7 Tryz.func156 #[.string a0, .string a1] ?_; (with_reducible refine (cmp_Compare_string.calls a0 a1 t168 _ A3.out).mono ?_); rintro e w' ⟨rfl, ⟨nd, rfl⟩⟩; refine ⟨_, rfl, ?_⟩))
 go_ret
 exact ⟨by first | rfl | (simp; done) | (simp [*]; done), by repeat (first | exact Drawn0.refl _ | apply Drawn0.step)⟩
end Go.Proofs.YtjfcmkddeglghaaGreatDoor.G
end
section
namespace Go.Proofs.YtjfcmkddeglghaaGreatDoor.G
open Go.RowKit Go.Proofs.YtjfcmkddeglghaaGreatDoorW.PrintWords Go.Proofs.YtjfcmkddeglghaaGreatDoorW.PrintLast Go.Proofs.YtjfcmkddeglghaaGreatDoorW.PrintMore
attribute [local go_sem] max2_int min2_int max_two min_two max_three min_three max_four min_four
set_option linter.unusedVariables false
set_option linter.unusedSimpArgs false
def cmp_Or_int.l0 : Nat → Int → List Int → Int → Int → Option (Int)
 | 0, _, _, _, _ => none
 | k + 1, x3, x6, x7, x8 => if x8 < x7 then (if 0 ≤ x8 then (if x8 < (x6.length : Int) then (if (rd x6 x8) = x3 then (cmp_Or_int.l0 k x3 x6 x7 (wrap64 (x8 + 1))) else (some (rd x6 x8))) else (none)) else (none)) else (some x3)
def cmp_Or_int.f (k : Nat) (l0 : List Int) : Option (Int) := cmp_Or_int.l0 k 0 l0 (l0.length : Int) 0
set_option maxHeartbeats 8000000 in
set_option maxRecDepth 100000 in
theorem cmp_Or_int.calls (k : Nat) (A0 : Option Addr) (c0 : Nat) (l0 : List Int) (r : Int) (w : World) (hr0 : Kd.C (Kd.int .i64) w A0 l0.length l0) (hc0 : l0.length ≤ c0) (h : cmp_Or_int.f k l0 = some r) :
  Calls Tryz.prog 159 #[.slice A0 l0.length c0] w fun e w' => e = .returned (.int .i64 r) ∧ Drawn0 w w' := by
 have HR0 := Aside0.mk hr0
 have HC0 := Aside0.mk hc0
 clear hr0 hc0
 have H : (cmp_Or_int.l0 k 0 l0 (l0.length : Int) 0) = some r := h
 clear h
 have H' := Aside0.mk H
 clear H
 go_enter Tryz.func159, Tryz.ntmps159
 go_wp2
 go_loopg [8] k (fun kq v8 w' => ∃ (x8_1 : Int), v8 = .int .i64 x8_1 ∧ Aside0 (cmp_Or_int.l0 kq 0 l0 (l0.length : Int) x8_1 = some r) ∧ Aside0 (kq ≤ k) ∧ Drawn0 w w')
 case atStart => exact ⟨(0), (by first | rfl | (simp; done) | (simp [*]; done)), H', ⟨Nat.le_refl _⟩, by repeat (first | exact Drawn0.refl _ | apply Drawn0.step)⟩
 case round =>
  clear H'
  try clear c1
  obtain ⟨x8_1, rfl, HA, HK1, ⟨m1, rfl⟩⟩ := hrel
  cases gk with
  | zero => exact absurd HA.out (by simp [cmp_Or_int.l0])
  | succ k1 =>
   have H := HA.out
   clear HA
   simp only [cmp_Or_int.l0] at H
   by_cases c2 : x8_1 < (l0.length : Int)
   ·rw [if_pos c2] at H
    have c2b0 : decide (x8_1 < (l0.length : Int)) = true := decide_eq_true c2
    clear c2
    by_cases c3 : 0 ≤ x8_1
    ·rw [if_pos c3] at H
     have c3b0 : decide (0 ≤ x8_1) = true := decide_eq_true c3
     clear c3
     by_cases c4 : x8_1 < (l0.length : Int)
     ·rw [if_pos c4] at H
      have c4b0 : decide (x8_1 < (l0.length : Int)) = true := decide_eq_true c4
      clear c4
      by_cases c5 : (rd l0 x8_1) = 0
      ·rw [if_pos c5] at H
       have c5b0 := beq_iff_eq.mpr c5
       have c5b1 := bne_eq_false_iff_eq.mpr c5
       clear c5
       have H' := Aside0.mk H
       clear H
       have p169 : 0 ≤ (x8_1 : Int) := of_decide_eq_true (by first | (with_reducible assumption) | assumption)
       have q169 : x8_1 < (l0.length : Int) := of_decide_eq_true (by first | (with_reducible assumption) | assumption)
       obtain ⟨ad169, e169, hx169_0⟩ := Kd.at_int HR0.out x8_1 p169 q169
       cases e169
       replace p169 := eq_true p169
       replace q169 := eq_true q169
       go_wp2
       go_roundg k1
       case measure => have := HK1.out; omega
       case rel => exact ⟨(wrap64 (x8_1 + 1)), (by first | rfl | (simp; done) | (simp [*]; done)), H', ⟨by have := HK1.out; omega⟩, by repeat (first | exact Drawn0.refl _ | apply Drawn0.step)⟩
      ·rw [if_neg c5] at H
       have c5b0 := beq_eq_false_iff_ne.mpr c5
       have c5b1 := bne_iff_ne.mpr c5
       obtain rfl := Option.some.inj H
       have p169 : 0 ≤ (x8_1 : Int) := of_decide_eq_true (by first | (with_reducible assumption) | assumption)
       have q169 : x8_1 < (l0.length : Int) := of_decide_eq_true (by first | (with_reducible assumption) | assumption)
       obtain ⟨ad169, e169, hx169_0⟩ := Kd.at_int HR0.out x8_1 p169 q169
       cases e169
       replace p169 := eq_true p169
       replace q169 := eq_true q169
       go_wp2
       go_ret
       exact ⟨by first | rfl | (simp; done) | (simp [*]; done), by repeat (first | exact Drawn0.refl _ | apply Drawn0.step)⟩
     ·rw [if_neg c4] at H
      exact absurd H (by simp)
    ·rw [if_neg c3] at H
     exact absurd H (by simp)
   ·rw [if_neg c2] at H
    have c2b0 : decide (x8_1 < (l0.length : Int)) = false := decide_eq_false c2
    clear c2
    obtain rfl := Option.some.inj H
    go_wp2
    go_ret
    exact ⟨by first | rfl | (simp; done) | (simp [*]; done), by repeat (first | exact Drawn0.refl _ | apply Drawn0.step)⟩
end Go.Proofs.YtjfcmkddeglghaaGreatDoor.G
end
section
namespace Go.Proofs.YtjfcmkddeglghaaGreatDoor.G
open Go.RowKit Go.Proofs.YtjfcmkddeglghaaGreatDoorW.PrintWords Go.Proofs.YtjfcmkddeglghaaGreatDoorW.PrintLast Go.Proofs.YtjfcmkddeglghaaGreatDoorW.PrintMore
attribute [local go_sem] max2_int min2_int max_two min_two max_three min_three max_four min_four
set_option linter.unusedVariables false
set_option linter.unusedSimpArgs false
def cmp_isNaN_int.f (a0 : Int) : Option (Bool) := some (a0 != a0)
set_option maxHeartbeats 8000000 in
set_option maxRecDepth 100000 in
theorem cmp_isNaN_int.calls (a0 : Int) (r : Bool) (w : World) (h : cmp_isNaN_int.f a0 = some r) :
  Calls Tryz.prog 197 #[.int .i64 a0] w fun e w' => e = .returned (.bool r) ∧ Drawn0 w w' := by
 have H : (some (a0 != a0)) = some r := h
 clear h
 obtain rfl := Option.some.inj H
 go_enter Tryz.func197, Tryz.ntmps197
 go_wp2
 go_ret
 exact ⟨by first | rfl | (simp; done) | (simp [*]; done), by repeat (first | exact Drawn0.refl _ | apply Drawn0.step)⟩
end Go.Proofs.YtjfcmkddeglghaaGreatDoor.G
end
section
namespace Go.Proofs.YtjfcmkddeglghaaGreatDoor.G
open Go.RowKit Go.Proofs.YtjfcmkddeglghaaGreatDoorW.PrintWords Go.Proofs.YtjfcmkddeglghaaGreatDoorW.PrintLast Go.Proofs.YtjfcmkddeglghaaGreatDoorW.PrintMore
attribute [local go_sem] max2_int min2_int max_two min_two max_three min_three max_four min_four
set_option linter.unusedVariables false
set_option linter.unusedSimpArgs false
def cmp_Compare_int.f (a0 : Int) (a1 : Int) : Option (Int) := (cmp_isNaN_int.f a0).bind fun t170 => ((cmp_isNaN_int.f a1).bind fun t171 => (if t170 = true then (if t171 = true then (some 0) else (some (-1))) else (if t171 = true then (some 1) else (if a0 < a1 then (some (-1)) else (if a0 > a1 then (some 1) else (some 0))))))
set_option maxHeartbeats 8000000 in
set_option maxRecDepth 100000 in
theorem cmp_Compare_int.calls (a0 : Int) (a1 : Int) (r : Int) (w : World) (h : cmp_Compare_int.f a0 a1 = some r) :
  Calls Tryz.prog 179 #[.int .i64 a0, .int .i64 a1] w fun e w' => e = .returned (.int .i64 r) ∧ Drawn0 w w' := by
 have H : ((cmp_isNaN_int.f a0).bind fun t170 => ((cmp_isNaN_int.f a1).bind fun t171 => (if t170 = true then (if t171 = true then (some 0) else (some (-1))) else (if t171 = true then (some 1) else (if a0 < a1 then (some (-1)) else (if a0 > a1 then (some 1) else (some 0))))))) = some r := h
 clear h
 obtain ⟨t170, A3, H⟩ := bo H
 obtain ⟨t171, A4, H⟩ := bo H
 by_cases c5 : t170 = true
 ·subst c5
  replace H := it H
  by_cases c6 : t171 = true
  ·subst c6
   replace H := it H
   obtain rfl := Option.some.inj H
   go_enter Tryz.func179, Tryz.ntmps179
   go_wp2_with (first | ((with_reducible refine gate_callee (f := 197) rfl ?_); refine gl 8 Tryz.func197 #[.int .i64 a0] ?_; (with_reducible refine (cmp_isNaN_int.calls a0 true _ A3.out).mono ?_); rintro e w' ⟨rfl, ⟨nd, rfl⟩⟩; refine ⟨_, rfl, ?_⟩) | ((with_reducible refine gate_callee (f := 197) rfl ?_); refine gl 10 Tryz.func197 #[.int .i64 a1] ?_; (with_reducible refine (cmp_isNaN_int.calls a1 true _ A4.out).mono ?_); rintro e w' ⟨rfl, ⟨nd, rfl⟩⟩; refine ⟨_, rfl, ?_⟩))
   go_ret
   exact ⟨by first | rfl | (simp; done) | (simp [*]; done), by repeat (first | exact Drawn0.refl _ | apply Drawn0.step)⟩
  ·replace c6 := Bool.eq_false_iff.mpr c6
   subst c6
   replace H := jf H
   obtain rfl := Option.some.inj H
   go_enter Tryz.func179, Tryz.ntmps179
   go_wp2_with (first | ((with_reducible refine gate_callee (f := 197) rfl ?_); refine gl 8 Tryz.func197 #[.int .i64 a0] ?_; (with_reducible refine (cmp_isNaN_int.calls a0 true _ A3.out).mono ?_); rintro e w' ⟨rfl, ⟨nd, rfl⟩⟩; refine ⟨_, rfl, ?_⟩) | ((with_reducible refine gate_callee (f := 197) rfl ?_); refine gl 10 Tryz.func197 #[.int .i64 a1] ?_; (with_reducible refine (cmp_isNaN_int.calls a1 false _ A4.out).mono ?_); rintro e w' ⟨rfl, ⟨nd, rfl⟩⟩; refine ⟨_, rfl, ?_⟩))
   go_ret
   exact ⟨by first | rfl | (simp; done) | (simp [*]; done), by repeat (first | exact Drawn0.refl _ | apply Drawn0.step)⟩
 ·replace c5 := Bool.eq_false_iff.mpr c5
  subst c5
  replace H := jf H
  by_cases c7 : t171 = true
  ·subst c7
   replace H := it H
   obtain rfl := Option.some.inj H
   go_enter Tryz.func179, Tryz.ntmps179
   go_wp2_with (first | ((with_reducible refine gate_callee (f := 197) rfl ?_); refine gl 8 Tryz.func197 #[.int .i64 a0] ?_; (with_reducible refine (cmp_isNaN_int.calls a0 false _ A3.out).mono ?_); rintro e w' ⟨rfl, ⟨nd, rfl⟩⟩; refine ⟨_, rfl, ?_⟩) | ((with_reducible refine gate_callee (f := 197) rfl ?_); refine gl 10 Tryz.func197 #[.int .i64 a1] ?_; (with_reducible refine (cmp_isNaN_int.calls a1 true _ A4.out).mono ?_); rintro e w' ⟨rfl, ⟨nd, rfl⟩⟩; refine ⟨_, rfl, ?_⟩))
   go_ret
   exact ⟨by first | rfl | (simp; done) | (simp [*]; done), by repeat (first | exact Drawn0.refl _ | apply Drawn0.step)⟩
  ·replace c7 := Bool.eq_false_iff.mpr c7
   subst c7
   replace H := jf H
   by_cases c8 : a0 < a1
   ·rw [if_pos c8] at H
    have c8b0 : decide (a0 < a1) = true := decide_eq_true c8
    clear c8
    obtain rfl := Option.some.inj H
    go_enter Tryz.func179, Tryz.ntmps179
    go_wp2_with (first | ((with_reducible refine gate_callee (f := 197) rfl ?_); refine gl 8 Tryz.func197 #[.int .i64 a0] ?_; (with_reducible refine (cmp_isNaN_int.calls a0 false _ A3.out).mono ?_); rintro e w' ⟨rfl, ⟨nd, rfl⟩⟩; refine ⟨_, rfl, ?_⟩) | ((with_reducible refine gate_callee (f := 197) rfl ?_); refine gl 10 Tryz.func197 #[.int .i64 a1] ?_; (with_reducible refine (cmp_isNaN_int.calls a1 false _ A4.out).mono ?_); rintro e w' ⟨rfl, ⟨nd, rfl⟩⟩; refine ⟨_, rfl, ?_⟩))
    go_ret
    exact ⟨by first | rfl | (simp; done) | (simp [*]; done), by repeat (first | exact Drawn0.refl _ | apply Drawn0.step)⟩
   ·rw [if_neg c8] at H
    have c8b0 : decide (a0 < a1) = false := decide_eq_false c8
    clear c8
    by_cases c9 : a0 > a1
    ·rw [if_pos c9] at H
     have c9b0 : decide (a1 < a0) = true := decide_eq_true c9
     clear c9
     obtain rfl := Option.some.inj H
     go_enter Tryz.func179, Tryz.ntmps179
     go_wp2_with (first | ((with_reducible refine gate_callee (f := 197) rfl ?_); refine gl 8 Tryz.func197 #[.int .i64 a0] ?_; (with_reducible refine (cmp_isNaN_int.calls a0 false _ A3.out).mono ?_); rintro e w' ⟨rfl, ⟨nd, rfl⟩⟩; refine ⟨_, rfl, ?_⟩) | ((with_reducible refine gate_callee (f := 197) rfl ?_); refine gl 10 Tryz.func197 #[.int .i64 a1] ?_; (with_reducible refine (cmp_isNaN_int.calls a1 false _ A4.out).mono ?_); rintro e w' ⟨rfl, ⟨nd, rfl⟩⟩; refine ⟨_, rfl, ?_⟩))
     go_ret
     exact ⟨by first | rfl | (simp; done) | (simp [*]; done), by repeat (first | exact Drawn0.refl _ | apply Drawn0.step)⟩
    ·rw [if_neg c9] at H
     have c9b0 : decide (a1 < a0) = false := decide_eq_false c9
     clear c9
     obtain rfl := Option.some.inj H
     go_enter Tryz.func179, Tryz.ntmps179
     go_wp2_with (first | ((with_reducible refine gate_callee (f := 197) rfl ?_); refine gl 8 Tryz.func197 #[.int .i64 a0] ?_; (with_reducible refine (cmp_isNaN_int.calls a0 false _ A3.out).mono ?_); rintro e w' ⟨rfl, ⟨nd, rfl⟩⟩; refine ⟨_, rfl, ?_⟩) | ((with_reducible refine gate_callee (f := 197) rfl ?_); refine gl 10 Tryz.func197 #[.int .i64 a1] ?_; (with_reducible refine (cmp_isNaN_int.calls a1 false _ A4.out).mono ?_); rintro e w' ⟨rfl, ⟨nd, rfl⟩⟩; refine ⟨_, rfl, ?_⟩))
     go_ret
     exact ⟨by first | rfl | (simp; done) | (simp [*]; done), by repeat (first | exact Drawn0.refl _ | apply Drawn0.step)⟩
end Go.Proofs.YtjfcmkddeglghaaGreatDoor.G
end
section
namespace Go.Proofs.YtjfcmkddeglghaaGreatDoor.G
open Go.RowKit Go.Proofs.YtjfcmkddeglghaaGreatDoorW.PrintWords Go.Proofs.YtjfcmkddeglghaaGreatDoorW.PrintLast Go.Proofs.YtjfcmkddeglghaaGreatDoorW.PrintMore
attribute [local go_sem] max2_int min2_int max_two min_two max_three min_three max_four min_four
set_option linter.unusedVariables false
set_option linter.unusedSimpArgs false
def number_Cmp.j0 : Nat → ByteArray → ByteArray → Bool → Option (Int × Int)
 | 0, _, _, _ => none
 | k + 1, x0, x1, x13 => if x13 = true then (some (0, 1)) else ((cmp_Compare_int.f (x0.size : Int) (x1.size : Int)).bind fun t174 => ((octet_Cmp.f x0 x1).bind fun t175 => ((cmp_Or_int.f k (([t174, t175] : List Int))).bind fun t179 => (some (t179, 0)))))
def number_Cmp.f (k : Nat) (a0 : ByteArray) (a1 : ByteArray) : Option (Int × Int) := (number_May.f a0).bind fun t172 => (if t172 = true then ((number_May.f a1).bind fun t173 => (number_Cmp.j0 k a0 a1 (!t173))) else (number_Cmp.j0 k a0 a1 true))
set_option maxHeartbeats 8000000 in
set_option maxRecDepth 100000 in
theorem number_Cmp.calls (k : Nat) (a0 : ByteArray) (a1 : ByteArray) (r1 : Int) (r2 : Int) (w : World) (h : number_Cmp.f k a0 a1 = some (r1, r2)) :
  Calls Tryz.prog 196 #[.string a0, .string a1] w fun e w' => e = .returned (.tuple #[.int .i64 r1, .int .i64 r2]) ∧ Below w.heap.size w w' := by
 have HB := Aside0.mk (Below.refl w.heap.size w)
 have H : ((number_May.f a0).bind fun t172 => (if t172 = true then ((number_May.f a1).bind fun t173 => (number_Cmp.j0 k a0 a1 (!t173))) else (number_Cmp.j0 k a0 a1 true))) = some (r1, r2) := h
 clear h
 have HC3 := Aside0.mk H
 clear H
 go_enter Tryz.func196, Tryz.ntmps196
 go_upto_region 1 with (fail)
 go_cut [13] (fun v13 wc => ∃ (kq : Nat) (x13_2 : Bool), v13 = .bool x13_2 ∧ Aside0 (number_Cmp.j0 kq a0 a1 x13_2 = some (r1, r2)) ∧ Aside0 (kq ≤ k) ∧ Aside0 (Below w.heap.size w wc))
 case first =>
  have H := HC3.out
  clear HC3
  obtain ⟨t172, A4, H⟩ := bo H
  by_cases c5 : t172 = true
  ·subst c5
   replace H := it H
   obtain ⟨t173, A6, H⟩ := bo H
   have H' := Aside0.mk H
   clear H
   go_wp2_with (first | ((with_reducible refine gate_callee (f := 173) rfl ?_); refine gl 7 Tryz.func173 #[.string a0] ?_; (with_reducible refine (number_May.calls a0 true _ A4.out).mono ?_); rintro e w7 ⟨rfl, hb⟩; refine ⟨_, rfl, ?_⟩; have n0_ := bs HB hb; revert n0_; clear HB; intro HB; (try clear hb)) | (go_at_call 173; (with_reducible refine (number_May.calls a1 t173 _ A6.out).mono ?_); rintro e w8 ⟨rfl, hb⟩; have n0_ := bs HB hb; revert n0_; clear HB; intro HB; (try clear hb)))
   go_meet
   case rel => exact ⟨_, (!t173), (by first | rfl | (simp; done) | (simp [*]; done)), H', ⟨by first | omega | exact Nat.le_refl _⟩, ⟨ba HB⟩⟩
  ·replace c5 := Bool.eq_false_iff.mpr c5
   subst c5
   replace H := jf H
   have H' := Aside0.mk H
   clear H
   go_wp2_with (first | ((with_reducible refine gate_callee (f := 173) rfl ?_); refine gl 7 Tryz.func173 #[.string a0] ?_; (with_reducible refine (number_May.calls a0 false _ A4.out).mono ?_); rintro e w9 ⟨rfl, hb⟩; refine ⟨_, rfl, ?_⟩; have n0_ := bs HB hb; revert n0_; clear HB; intro HB; (try clear hb)))
   go_meet
   case rel => exact ⟨_, (true), (by first | rfl | (simp; done) | (simp [*]; done)), H', ⟨by first | omega | exact Nat.le_refl _⟩, ⟨ba HB⟩⟩
 case rest =>
  clear HC3
  try clear c1
  try clear p2
  try clear c5
  obtain ⟨kq, x13_2, rfl, HA, HJ2, HB⟩ := hcut
  cases kq with
  | zero => exact absurd HA.out (by simp [number_Cmp.j0])
  | succ kj2 =>
   have H := HA.out
   clear HA
   simp only [number_Cmp.j0] at H
   by_cases c10 : x13_2 = true
   ·subst c10
    replace H := it H
    simp only [Option.some.injEq, Prod.mk.injEq] at H
    obtain ⟨rfl, rfl⟩ := H
    go_wp2
    go_ret2
    exact ⟨by first | rfl | (simp [errW_none, errW_some] <;> rfl) | (simp [*, errW_none, errW_some] <;> rfl), ba HB⟩
   ·replace c10 := Bool.eq_false_iff.mpr c10
    subst c10
    replace H := jf H
    obtain ⟨t174, A11, H⟩ := bo H
    obtain ⟨t175, A12, H⟩ := bo H
    obtain ⟨y176, hy176⟩ : ∃ y_ : List Int, y_ = (([t174, t175] : List Int)) := ⟨_, rfl⟩
    replace H : ((cmp_Or_int.f kj2 y176).bind fun t179 => (some (t179, 0))) = some (r1, r2) := by first | (rw [hy176]; with_reducible exact H) | (have H2_ := (Option.bind_some _ _).symm.trans H; rw [hy176]; with_reducible exact H2_) | (have H2_ := (Option.bind_some _ _).symm.trans H; with_reducible exact H2_) | with_reducible exact H | (rw [hy176]; exact H) | exact H
    have Ny176 := Aside0.mk hy176
    clear hy176
    obtain ⟨t179, A13, H⟩ := bo H
    simp only [Option.some.injEq, Prod.mk.injEq] at H
    obtain ⟨rfl, rfl⟩ := H
    go_wp2_with (first | ((with_reducible refine gate_callee (f := 179) rfl ?_); refine gl 18 Tryz.func179 #[.int .i64 (a0.size : Int), .int .i64 (a1.size : Int)] ?_; (with_reducible refine (cmp_Compare_int.calls (a0.size : Int) (a1.size : Int) t174 _ A11.out).mono ?_); rintro e w' ⟨rfl, ⟨nd, rfl⟩⟩; refine ⟨_, rfl, ?_⟩) | ((with_reducible refine gate_callee (f := 122) rfl ?_); refine gl 21 Tryz.func122 #[.string a0, .string a1] ?_; (with_reducible refine (octet_Cmp.calls a0 a1 t175 _ A12.out).mono ?_); rintro e w' ⟨rfl, ⟨nd, rfl⟩⟩; refine ⟨_, rfl, ?_⟩) | ((with_reducible refine gate_dst (N := 22) rfl ?_); refine Kd.R_lit (Kd.int .i64) _ 3 ?hg (N := 22) ?hd (xs := ([t174, t175] : List Int)) (inner := [.int .i64 t174, .int .i64 t175]) (ok := fun _ => True) (okp := fun _ => True) ?hr ?hp (fun _ hk => hk) trivial (Below.refl _ _) (Nat.le_refl _) (by simp) ?_; (case hd => rfl); (case hg => rfl); (case hr => first | (go_simp; done) | (go_simp; rfl)); (case hp => exact (Reps.one (show Kd.M (Kd.int .i64) _ _ _ t174 [.int .i64 t174] from rfl) (Reps.one (show Kd.M (Kd.int .i64) _ _ _ t175 [.int .i64 t175] from rfl) (Reps.none _ _)))); intro v177 w14 ho15 hb hg_ hnew_; clear hg_ hnew_; (first | rw [← Ny176.out] at ho15 | (simp only [Int.reduceToNat] at ho15; rw [← Ny176.out] at ho15)); have n0_ := Aside0.mk (Kd.R_lower ho15 (bz HB)); have n1_ := bs HB hb; revert n0_ n1_; clear HB; intro HO178 HB; clear hb ho15; obtain ⟨Ao16, co16, eo16⟩ := Kd.R_slice HO178.out; subst eo16) | ((with_reducible refine gate_callee (f := 159) rfl ?_); refine gl 23 Tryz.func159 #[.slice Ao16 y176.length co16] ?_; (with_reducible refine (cmp_Or_int.calls kj2 _ _ y176 t179 _ ?side1 ?side2 A13.out).mono ?_); (case side1 => repeat (first | exact (Kd.R_reads' HO178.out).2.2 | (with_reducible refine Kd.C_alloc ?_ _) | (with_reducible refine Kd.C_drewN ?_ _) | (with_reducible refine Kd.C_drew ?_))); (case side2 => exact (Kd.R_reads' HO178.out).2.1); rintro e w' ⟨rfl, ⟨nd, rfl⟩⟩; refine ⟨_, rfl, ?_⟩))
    go_ret2
    exact ⟨by first | rfl | (simp [errW_none, errW_some] <;> rfl) | (simp [*, errW_none, errW_some] <;> rfl), ba HB⟩
end Go.Proofs.YtjfcmkddeglghaaGreatDoor.G
end
section
namespace Go.Proofs.YtjfcmkddeglghaaGreatDoor.G
open Go.RowKit Go.Proofs.YtjfcmkddeglghaaGreatDoorW.PrintWords Go.Proofs.YtjfcmkddeglghaaGreatDoorW.PrintLast Go.Proofs.YtjfcmkddeglghaaGreatDoorW.PrintMore
attribute [local go_sem] max2_int min2_int max_two min_two max_three min_three max_four min_four
set_option linter.unusedVariables false
set_option linter.unusedSimpArgs false
def version_numbers.f (k : Nat) (a0 : ByteArray) (a1 : ByteArray) : Option (Int) := (number_Cmp.f k a0 a1).bind fun bt180 => (some bt180.1)
set_option maxHeartbeats 8000000 in
set_option maxRecDepth 100000 in
theorem version_numbers.calls (k : Nat) (a0 : ByteArray) (a1 : ByteArray) (r : Int) (w : World) (h : version_numbers.f k a0 a1 = some r) :
  Calls Tryz.prog 178 #[.string a0, .string a1] w fun e w' => e = .returned (.int .i64 r) ∧ Below w.heap.size w w' := by
 have HB := Aside0.mk (Below.refl w.heap.size w)
 have H : ((number_Cmp.f k a0 a1).bind fun bt180 => (some bt180.1)) = some r := h
 clear h
 obtain ⟨⟨t180, t181⟩, A3, H⟩ := bo H
 replace H : (some t180) = some r := H
 obtain rfl := Option.some.inj H
 go_enter Tryz.func178, Tryz.ntmps178
 go_wp2_with (first | ((with_reducible refine gate_callee (f := 196) rfl ?_); refine gl 10 Tryz.func196 #[.string a0, .string a1] ?_; (with_reducible refine (number_Cmp.calls k a0 a1 t180 t181 _ A3.out).mono ?_); rintro e w4 ⟨rfl, hb⟩; refine ⟨_, rfl, ?_⟩; have n0_ := bs HB hb; revert n0_; clear HB; intro HB; (try clear hb)))
 go_ret
 exact ⟨by first | rfl | (simp [errW_none, errW_some] <;> rfl) | (simp [*, errW_none, errW_some] <;> rfl), ba HB⟩
end Go.Proofs.YtjfcmkddeglghaaGreatDoor.G
end
section
namespace Go.Proofs.YtjfcmkddeglghaaGreatDoor.G
open Go.RowKit Go.Proofs.YtjfcmkddeglghaaGreatDoorW.PrintWords Go.Proofs.YtjfcmkddeglghaaGreatDoorW.PrintLast Go.Proofs.YtjfcmkddeglghaaGreatDoorW.PrintMore
attribute [local go_sem] max2_int min2_int max_two min_two max_three min_three max_four min_four
set_option linter.unusedVariables false
set_option linter.unusedSimpArgs false
def version_words.j0 : Nat → ByteArray → ByteArray → Bool → Bool → Bool → Option (Int)
 | 0, _, _, _, _, _ => none
 | k + 1, x0, x1, x5, x6, x11 => if x11 = true then ((version_numbers.f k x0 x1).bind fun t184 => (some t184)) else (if x5 = true then (some (-1)) else (if x6 = true then (some 1) else ((octet_Cmp.f x0 x1).bind fun t185 => (some t185))))
def version_words.f (k : Nat) (a0 : ByteArray) (a1 : ByteArray) : Option (Int) := (number_May.f a0).bind fun t182 => ((number_May.f a1).bind fun t183 => (if t182 = true then (version_words.j0 k a0 a1 t182 t183 t183) else (version_words.j0 k a0 a1 t182 t183 false)))
set_option maxHeartbeats 8000000 in
set_option maxRecDepth 100000 in
theorem version_words.calls (k : Nat) (a0 : ByteArray) (a1 : ByteArray) (r : Int) (w : World) (h : version_words.f k a0 a1 = some r) :
  Calls Tryz.prog 180 #[.string a0, .string a1] w fun e w' => e = .returned (.int .i64 r) ∧ Below w.heap.size w w' := by
 have HB := Aside0.mk (Below.refl w.heap.size w)
 have H : ((number_May.f a0).bind fun t182 => ((number_May.f a1).bind fun t183 => (if t182 = true then (version_words.j0 k a0 a1 t182 t183 t183) else (version_words.j0 k a0 a1 t182 t183 false)))) = some r := h
 clear h
 obtain ⟨t182, A3, H⟩ := bo H
 obtain ⟨t183, A4, H⟩ := bo H
 have HC5 := Aside0.mk H
 clear H
 go_enter Tryz.func180, Tryz.ntmps180
 go_upto_region 2 with (first | ((with_reducible refine gate_callee (f := 173) rfl ?_); refine gl 8 Tryz.func173 #[.string a0] ?_; (with_reducible refine (number_May.calls a0 t182 _ A3.out).mono ?_); rintro e w6 ⟨rfl, hb⟩; refine ⟨_, rfl, ?_⟩; have n0_ := bs HB hb; revert n0_; clear HB; intro HB; (try clear hb)) | ((with_reducible refine gate_callee (f := 173) rfl ?_); refine gl 10 Tryz.func173 #[.string a1] ?_; (with_reducible refine (number_May.calls a1 t183 _ A4.out).mono ?_); rintro e w7 ⟨rfl, hb⟩; refine ⟨_, rfl, ?_⟩; have n0_ := bs HB hb; revert n0_; clear HB; intro HB; (try clear hb)))
 (try simp only [Act.put, List.setIfInBounds_toArray, List.set_cons_zero, List.set_cons_succ])
 go_cut [11] (fun v11 wc => ∃ (kq : Nat) (x11_4 : Bool), v11 = .bool x11_4 ∧ Aside0 (version_words.j0 kq a0 a1 t182 t183 x11_4 = some r) ∧ Aside0 (kq ≤ k) ∧ Aside0 (Below w.heap.size w wc))
 case first =>
  have H := HC5.out
  clear HC5
  by_cases c8 : t182 = true
  ·subst c8
   replace H := it H
   have H' := Aside0.mk H
   clear H
   go_wp2
   go_meet
   case rel => exact ⟨_, (t183), (by first | rfl | (simp; done) | (simp [*]; done)), H', ⟨by first | omega | exact Nat.le_refl _⟩, ⟨ba HB⟩⟩
  ·replace c8 := Bool.eq_false_iff.mpr c8
   subst c8
   replace H := jf H
   have H' := Aside0.mk H
   clear H
   go_wp2
   go_meet
   case rel => exact ⟨_, (false), (by first | rfl | (simp; done) | (simp [*]; done)), H', ⟨by first | omega | exact Nat.le_refl _⟩, ⟨ba HB⟩⟩
 case rest =>
  clear HC5
  try clear c1
  try clear p2
  try clear c8
  obtain ⟨kq, x11_4, rfl, HA, HJ4, HB⟩ := hcut
  cases kq with
  | zero => exact absurd HA.out (by simp [version_words.j0])
  | succ kj4 =>
   have H := HA.out
   clear HA
   simp only [version_words.j0] at H
   by_cases c9 : x11_4 = true
   ·subst c9
    replace H := it H
    obtain ⟨t184, A10, H⟩ := bo H
    obtain rfl := Option.some.inj H
    go_wp2_with (first | ((with_reducible refine gate_callee (f := 178) rfl ?_); refine gl 18 Tryz.func178 #[.string a0, .string a1] ?_; (with_reducible refine (version_numbers.calls kj4 a0 a1 t184 _ A10.out).mono ?_); rintro e w11 ⟨rfl, hb⟩; refine ⟨_, rfl, ?_⟩; have n0_ := bs HB hb; revert n0_; clear HB; intro HB; (try clear hb)))
    go_ret
    exact ⟨by first | rfl | (simp [errW_none, errW_some] <;> rfl) | (simp [*, errW_none, errW_some] <;> rfl), ba HB⟩
   ·replace c9 := Bool.eq_false_iff.mpr c9
    subst c9
    replace H := jf H
    by_cases c12 : t182 = true
    ·subst c12
     replace H := it H
     obtain rfl := Option.some.inj H
     go_wp2
     go_ret
     exact ⟨by first | rfl | (simp [errW_none, errW_some] <;> rfl) | (simp [*, errW_none, errW_some] <;> rfl), ba HB⟩
    ·replace c12 := Bool.eq_false_iff.mpr c12
     subst c12
     replace H := jf H
     by_cases c13 : t183 = true
     ·subst c13
      replace H := it H
      obtain rfl := Option.some.inj H
      go_wp2
      go_ret
      exact ⟨by first | rfl | (simp [errW_none, errW_some] <;> rfl) | (simp [*, errW_none, errW_some] <;> rfl), ba HB⟩
     ·replace c13 := Bool.eq_false_iff.mpr c13
      subst c13
      replace H := jf H
      obtain ⟨t185, A14, H⟩ := bo H
      obtain rfl := Option.some.inj H
      go_wp2_with (first | ((with_reducible refine gate_callee (f := 122) rfl ?_); refine gl 25 Tryz.func122 #[.string a0, .string a1] ?_; (with_reducible refine (octet_Cmp.calls a0 a1 t185 _ A14.out).mono ?_); rintro e w' ⟨rfl, ⟨nd, rfl⟩⟩; refine ⟨_, rfl, ?_⟩))
      go_ret
      exact ⟨by first | rfl | (simp [errW_none, errW_some] <;> rfl) | (simp [*, errW_none, errW_some] <;> rfl), ba HB⟩
end Go.Proofs.YtjfcmkddeglghaaGreatDoor.G
end
section
namespace Go.Proofs.YtjfcmkddeglghaaGreatDoor.G
open Go.RowKit Gw Go.Proofs.YtjfcmkddeglghaaGreatDoorW.PrintWords Go.Proofs.YtjfcmkddeglghaaGreatDoorW.PrintLast Go.Proofs.YtjfcmkddeglghaaGreatDoorW.PrintMore
set_option linter.unusedVariables false
set_option linter.unusedSimpArgs false
theorem cmpS_less : ∀ a b : Str, cmpS a b = if Op.bytesLess a b = true then -1 else if (a == b) = true then 0 else 1 := by
  intro a
  induction a with
  | nil => intro b; cases b <;> rfl
  | cons x a ih =>
    intro b
    cases b with
    | nil => rfl
    | cons y b =>
      have hc : cmpS (x :: a) (y :: b) = or3 (cmpB x y) (cmpS a b) := rfl
      have hl : Op.bytesLess (x :: a) (y :: b) = (decide (x < y) || (x == y && Op.bytesLess a b)) := rfl
      rw [hc, hl]
      unfold cmpB cmpN or3
      by_cases h1 : x < y
      · have : x.toNat < y.toNat := h1
        simp [h1, this]
      · have h1' : ¬ x.toNat < y.toNat := h1
        by_cases h2 : x = y
        · subst h2
          simp [ih b]
        · have h3 : y.toNat < x.toNat := by
            have : x.toNat ≠ y.toNat := fun e => h2 (UInt8.toNat_inj.1 e)
            omega
          simp [h1, h1', h2, h3]
theorem octet_Cmp_ev (a b : Str) : octet_Cmp.f (ofL a) (ofL b) = some (cmpS a b) := by
  unfold octet_Cmp.f cmp_Compare_string.f
  rw [toList_ofL, toList_ofL, cmpS_less]
  rfl
theorem cmp_Compare_int_ev (a b : Nat) : cmp_Compare_int.f (a : Int) (b : Int) = some (cmpN a b) := by
  unfold cmp_Compare_int.f cmp_isNaN_int.f cmpN
  simp only [Option.bind_some, bne_self_eq_false, Bool.false_eq_true, if_false]
  by_cases h : a < b
  · rw [if_pos h, if_pos (by omega)]
  · rw [if_neg h, if_neg (by omega)]
    by_cases h2 : b < a
    · rw [if_pos h2, if_pos (by omega)]
    · rw [if_neg h2, if_neg (by omega)]
def orL : List Int → Int
  | [] => 0
  | x :: l => or3 x (orL l)
theorem cmp_Or_loop (l : List Int) (hl : l.length < 9223372036854775807) : ∀ n i, i + n = l.length → Ev (fun k => cmp_Or_int.l0 k 0 l (l.length : Int) (i : Int)) (orL (l.drop i)) := by
  intro n
  induction n with
  | zero =>
    intro i hi
    refine Ev.succ ?_
    simp only [cmp_Or_int.l0]
    refine Ev.neg (by omega) (Ev.some_eq ?_)
    rw [List.drop_of_length_le (by omega)]
    rfl
  | succ n ih =>
    intro i hi
    have hil : i < l.length := by omega
    refine Ev.succ ?_
    simp only [cmp_Or_int.l0]
    refine Ev.pos (by omega) (Ev.pos (by omega) (Ev.pos (by omega) ?_))
    have hr : rd l (i : Int) = l[i] := rdOf_at 0 l i hil
    rw [hr, drop_at _ _ hil]
    unfold orL or3
    by_cases h : l[i] = 0
    · rw [if_pos h]
      refine Ev.pos h ?_
      rw [w64n i (by omega)]
      exact ih (i + 1) (by omega)
    · rw [if_neg h]
      exact Ev.neg h (Ev.some_ _)
theorem cmp_Or_ev (l : List Int) (hl : l.length < 9223372036854775807) : Ev (fun k => cmp_Or_int.f k l) (orL l) := cmp_Or_loop l hl _ 0 (Nat.zero_add _)
theorem number_Cmp_ev (a b : Str) (ha : Sz a) (hb : Sz b) (ma : numMay a = true) (mb : numMay b = true) : Ev (fun k => number_Cmp.f k (ofL a) (ofL b)) (numCmp a b, 0) := by
  unfold number_Cmp.f
  refine Ev.bindc (number_May_ev a ha) (Ev.pos ma (Ev.bindc (number_May_ev b hb) ?_))
  rw [mb]
  refine Ev.succ ?_
  simp only [number_Cmp.j0]
  refine Ev.neg (by simp) (Ev.bindc (cmp_Compare_int_ev _ _) (Ev.bindc (octet_Cmp_ev a b) (Ev.bind (cmp_Or_ev _ (by simp)) (Ev.some_eq ?_))))
  unfold numCmp
  rw [size_ofL, size_ofL]
  have h0 : ∀ x : Int, or3 x 0 = x := fun x => by unfold or3; split <;> omega
  simp only [orL, h0]
theorem version_numbers_ev (a b : Str) (ha : Sz a) (hb : Sz b) (ma : numMay a = true) (mb : numMay b = true) : Ev (fun k => version_numbers.f k (ofL a) (ofL b)) (numCmp a b) := by
  unfold version_numbers.f
  exact Ev.bind (number_Cmp_ev a b ha hb ma mb) (Ev.some_ _)
theorem version_words_ev (a b : Str) (ha : Sz a) (hb : Sz b) : Ev (fun k => version_words.f k (ofL a) (ofL b)) (wordCmp a b) := by
  unfold version_words.f
  refine Ev.bindc (number_May_ev a ha) (Ev.bindc (number_May_ev b hb) ?_)
  unfold wordCmp
  cases ma : numMay a
  · refine Ev.neg (by simp) (Ev.succ ?_)
    simp only [version_words.j0]
    refine Ev.neg (by simp) (Ev.neg (by simp) ?_)
    cases mb : numMay b
    · refine Ev.neg (by simp) (Ev.bindc (octet_Cmp_ev a b) (Ev.some_eq (by simp)))
    · exact Ev.pos (by simp) (Ev.some_eq (by simp))
  · refine Ev.pos rfl (Ev.succ ?_)
    simp only [version_words.j0]
    cases mb : numMay b
    · refine Ev.neg (by simp) (Ev.pos (by simp) (Ev.some_eq (by simp)))
    · refine Ev.pos (by simp) (Ev.bind (version_numbers_ev a b ha hb ma mb) (Ev.some_eq (by simp)))
end Go.Proofs.YtjfcmkddeglghaaGreatDoor.G
end
section
namespace Go.Proofs.YtjfcmkddeglghaaGreatDoor.G
open Go.RowKit Gw Go.Proofs.YtjfcmkddeglghaaGreatDoorW.PrintWords Go.Proofs.YtjfcmkddeglghaaGreatDoorW.PrintLast Go.Proofs.YtjfcmkddeglghaaGreatDoorW.PrintMore
set_option linter.unusedVariables false
set_option linter.unusedSimpArgs false
def SplitOk (x0 x1 x2 : ByteArray) (xs : List ByteArray) (w : World) (e : Ending) (w' : World) : Prop :=
  ∃ A c, e = .returned (.tuple #[.agg #[.string x0, .string x1, .string x2, .slice A xs.length c], .int .i64 0]) ∧ Kd.C Kd.string w' A xs.length xs ∧ Below w.heap.size w w'
def SplitAny (z : Int) (w : World) (e : Ending) (w' : World) : Prop :=
  ∃ a b c A n m, e = .returned (.tuple #[.agg #[.string a, .string b, .string c, .slice A n m], .int .i64 z]) ∧ Below w.heap.size w w'
theorem version_Split_ok (s : ByteArray) (v : Ver) (w : World) (h : s.size < 4294967281) (ho : verSplit s.data.toList = some v) :
    Calls Tryz.prog 150 #[.string s] w (SplitOk (ofL v.major) (ofL v.minor) (ofL v.patch) (v.pre.map ofL) w) := by
  obtain ⟨k, hk⟩ := (version_Split_ev s.data.toList (by rw [size_data] at h; exact h)).get
  rw [ofL_self, ho] at hk
  refine (version_Split.calls k s _ _ _ _ _ w hk).mono ?_
  rintro e w' ⟨x, rfl, hr, hb⟩
  obtain ⟨A, c, rfl, hl, hc⟩ := Kd.R_reads hr
  exact ⟨A, c, rfl, hc, hb⟩
theorem version_Split_no' (s : ByteArray) (w : World) (h : s.size < 4294967281) (ho : verSplit s.data.toList = none) :
    Calls Tryz.prog 150 #[.string s] w (SplitAny 1 w) := by
  obtain ⟨k, hk⟩ := (version_Split_ev s.data.toList (by rw [size_data] at h; exact h)).get
  rw [ofL_self, ho] at hk
  refine (version_Split.calls k s _ _ _ _ _ w hk).mono ?_
  rintro e w' ⟨v, rfl, hr, hb⟩
  obtain ⟨A, c, rfl, hl, hc⟩ := Kd.R_reads hr
  exact ⟨_, _, _, _, _, _, rfl, hb⟩
section
variable {w : World} {bx by_ : Nat} {x0 x1 x2 y0 y1 y2 : ByteArray} {xs ys : List ByteArray} {A : Option Addr} {c : Nat} {A' : Option Addr} {c' : Nat} {wq w' : World}
structure VSt (w : World) (bx by_ : Nat) (x0 x1 x2 : ByteArray) (xs : List ByteArray) (y0 y1 y2 : ByteArray) (ys : List ByteArray) (A : Option Addr) (c : Nat) (A' : Option Addr) (c' : Nat) (wq : World) : Prop where
  x : wq.heap[bx]? = some (.cells #[.string x0, .string x1, .string x2, .slice A xs.length c] 146 (0, 0))
  y : wq.heap[by_]? = some (.cells #[.string y0, .string y1, .string y2, .slice A' ys.length c'] 146 (0, 0))
  cx : Kd.C Kd.string wq A xs.length xs
  cy : Kd.C Kd.string wq A' ys.length ys
  b : Below w.heap.size w wq
theorem VSt.below (h : VSt w bx by_ x0 x1 x2 xs y0 y1 y2 ys A c A' c' wq) (hb : Below wq.heap.size wq w') : VSt w bx by_ x0 x1 x2 xs y0 y1 y2 ys A c A' c' w' where
  x := (hb.block _ (Array.getElem?_eq_some_iff.1 h.x).1).trans h.x
  y := (hb.block _ (Array.getElem?_eq_some_iff.1 h.y).1).trans h.y
  cx := Kd.C_below h.cx hb
  cy := Kd.C_below h.cy hb
  b := below_then h.b h.b.size hb
theorem VSt.cells (h : VSt w bx by_ x0 x1 x2 xs y0 y1 y2 ys A c A' c' wq) :
    wq.cell? ⟨bx, 0, none⟩ = some (.string x0) ∧ wq.cell? ⟨bx, 1, none⟩ = some (.string x1) ∧ wq.cell? ⟨bx, 2, none⟩ = some (.string x2) ∧ wq.cell? ⟨bx, 3, none⟩ = some (.slice A xs.length c) ∧
    wq.cell? ⟨by_, 0, none⟩ = some (.string y0) ∧ wq.cell? ⟨by_, 1, none⟩ = some (.string y1) ∧ wq.cell? ⟨by_, 2, none⟩ = some (.string y2) ∧ wq.cell? ⟨by_, 3, none⟩ = some (.slice A' ys.length c') :=
  ⟨cell_of_row _ _ _ _ _ _ h.x, cell_of_row _ _ _ _ _ _ h.x, cell_of_row _ _ _ _ _ _ h.x, cell_of_row _ _ _ _ _ _ h.x, cell_of_row _ _ _ _ _ _ h.y, cell_of_row _ _ _ _ _ _ h.y, cell_of_row _ _ _ _ _ _ h.y, cell_of_row _ _ _ _ _ _ h.y⟩
end
theorem two_new (wq : World) (X Y : Obj) : ((wq.alloc X).alloc Y).drew.heap[wq.heap.size]? = some X ∧ ((wq.alloc X).alloc Y).drew.heap[wq.heap.size + 1]? = some Y ∧ Below wq.heap.size wq ((wq.alloc X).alloc Y).drew := by
  refine ⟨?_, ?_, ?_⟩
  · show ((wq.alloc X).alloc Y).heap[wq.heap.size]? = _
    rw [Below.heap_alloc _ _ _ (by simp)]
    exact heap_alloc_new _ _
  · show ((wq.alloc X).alloc Y).heap[wq.heap.size + 1]? = _
    have := heap_alloc_new (wq.alloc X) Y
    simpa using this
  · exact below_drew1 (((Below.refl _ _).alloc (Nat.le_refl _) _).alloc (by simp) _)
theorem orL_zero : ∀ l : List Int, (∀ x ∈ l, x = 0) → orL l = 0 := by
  intro l
  induction l with
  | nil => intro _; rfl
  | cons a l ih =>
    intro h
    unfold orL or3
    rw [if_pos (h a (by simp)), ih fun x hx => h x (by simp [hx])]
def Held13 (bx by_ n m : Nat) (ax ay : Addr) (c c' i : Nat) (p q : ByteArray) (wr wx : World) : Prop :=
  wx.cell? ⟨bx, 3, none⟩ = some (.slice (some ax) n c) ∧ wx.cell? ⟨by_, 3, none⟩ = some (.slice (some ay) m c') ∧ wx.cell? (ax.add i) = some (.string p) ∧ wx.cell? (ay.add i) = some (.string q) ∧ Below wr.heap.size wr wx
theorem Held13.below {bx by_ n m : Nat} {ax ay : Addr} {c c' i : Nat} {p q : ByteArray} {wr wx w' : World} (hb : Below wx.heap.size wx w') (h : Held13 bx by_ n m ax ay c c' i p q wr wx) : Held13 bx by_ n m ax ay c c' i p q wr w' := by
  obtain ⟨h1, h2, h3, h4, h5⟩ := h
  have go : ∀ a v, wx.cell? a = some v → w'.cell? a = some v := fun a v hv => (hb.cell (World.block_lt_of_cell? wx _ hv)).trans hv
  exact ⟨go _ _ h1, go _ _ h2, go _ _ h3, go _ _ h4, below_then h5 h5.size hb⟩
theorem orL_append : ∀ (a b : List Int), (∀ x ∈ a, x = 0) → orL (a ++ b) = orL b := by
  intro a
  induction a with
  | nil => intro b _; rfl
  | cons x a ih =>
    intro b h
    rw [List.cons_append]
    unfold orL or3
    rw [if_pos (h x (by simp)), ih b fun y hy => h y (by simp [hy])]
    cases b <;> rfl
theorem orL_first (N : Nat) (cw : Nat → Int) (i : Nat) (hi : i < N) (hz : ∀ j, j < i → cw j = 0) (hn : ¬ cw i = 0) : orL ((List.range N).map cw) = cw i := by
  have e : List.range N = List.range i ++ (List.range' i (N - i)) := by
    rw [List.range_eq_range', List.range_eq_range']
    have := List.range'_append (s := 0) (m := i) (n := N - i) (step := 1)
    rw [Nat.one_mul, Nat.zero_add, Nat.add_sub_cancel' (by omega)] at this
    exact this.symm
  rw [e, List.map_append, orL_append _ _ (by
    intro x hx
    obtain ⟨j, hj, rfl⟩ := List.mem_map.1 hx
    exact hz j (List.mem_range.1 hj))]
  obtain ⟨r, hr⟩ : ∃ r, N - i = r + 1 := ⟨N - i - 1, by omega⟩
  rw [hr]
  show or3 (cw i) _ = _
  unfold or3
  rw [if_neg hn]
def Held7 (g h : Nat) (x0 x1 x2 y0 y1 y2 : ByteArray) (wc wx : World) : Prop :=
  wx.cell? ⟨g, 0, none⟩ = some (.string x0) ∧ wx.cell? ⟨g, 1, none⟩ = some (.string x1) ∧ wx.cell? ⟨g, 2, none⟩ = some (.string x2) ∧ wx.cell? ⟨h, 0, none⟩ = some (.string y0) ∧ wx.cell? ⟨h, 1, none⟩ = some (.string y1) ∧ wx.cell? ⟨h, 2, none⟩ = some (.string y2) ∧ Below wc.heap.size wc wx
theorem Held7.below {g h : Nat} {x0 x1 x2 y0 y1 y2 : ByteArray} {wc wx w' : World} (hb : Below wx.heap.size wx w') (s : Held7 g h x0 x1 x2 y0 y1 y2 wc wx) : Held7 g h x0 x1 x2 y0 y1 y2 wc w' := by
  obtain ⟨h1, h2, h3, h4, h5, h6, h7⟩ := s
  have go : ∀ a v, wx.cell? a = some v → w'.cell? a = some v := fun a v hv => (hb.cell (World.block_lt_of_cell? wx _ hv)).trans hv
  exact ⟨go _ _ h1, go _ _ h2, go _ _ h3, go _ _ h4, go _ _ h5, go _ _ h6, below_then h7 h7.size hb⟩
theorem Held7.alloc {g h : Nat} {x0 x1 x2 y0 y1 y2 : ByteArray} {wc wx : World} (o : Obj) (s : Held7 g h x0 x1 x2 y0 y1 y2 wc wx) : Held7 g h x0 x1 x2 y0 y1 y2 wc (wx.alloc o) := s.below ((Below.refl _ _).alloc (Nat.le_refl _) _)
theorem below_of_drawn {w w' : World} (h : Drawn0 w w') : Below w.heap.size w w' := by
  obtain ⟨n, rfl⟩ := h
  exact pw_below_drewN (Below.refl _ _) n
theorem C_lit3 (W : World) (n0 n1 n2 : Int) : Kd.C (Kd.int .i64) (W.alloc (.cells #[.int .i64 n0, .int .i64 n1, .int .i64 n2] 3)) (some ⟨W.heap.size, 0, none⟩) 3 [n0, n1, n2] := by
  refine ⟨rfl, by decide, fun _ => ⟨⟨W.heap.size, 0, none⟩, rfl, fun j p hj => ⟨[.int .i64 p], rfl, rfl, fun i u hu => ?_⟩⟩⟩
  have hi : i = 0 := by
    have := (List.getElem?_eq_some_iff.1 hu).1
    simp at this; exact this
  subst hi
  simp at hu
  subst hu
  rw [add_plain, cell_of_row _ _ _ _ _ _ (heap_alloc_new W _)]
  have hj3 : j < 3 := (List.getElem?_eq_some_iff.1 hj).1
  have h4 : j = 0 ∨ j = 1 ∨ j = 2 := by omega
  rcases h4 with rfl | rfl | rfl <;> simp_all [Kd.int, Kd.scalar]
def preK (cw : Nat → Int) (n m : Nat) : Int := if n = 0 ∨ m = 0 then cmpN m n else or3 (orL ((List.range (min n m)).map cw)) (cmpN n m)
theorem or3_or3 (a b : Int) (h : ¬ a = 0) : or3 a b = a := by unfold or3; rw [if_neg h]
theorem cmpLs_getD (a b : List Str) : cmpLs wordCmp a b = or3 (orL ((List.range (min a.length b.length)).map fun i => wordCmp (a.getD i []) (b.getD i []))) (cmpN a.length b.length) := by
  induction a generalizing b with
  | nil => cases b <;> simp [cmpLs, orL, or3, cmpN]
  | cons x a ih =>
    cases b with
    | nil => simp [cmpLs, orL, or3, cmpN]
    | cons y b =>
      have hm : min (x :: a).length (y :: b).length = min a.length b.length + 1 := by simp only [List.length_cons]; omega
      rw [hm, List.range_succ_eq_map, List.map_cons, List.map_map]
      show or3 (wordCmp x y) (cmpLs wordCmp a b) = or3 (or3 (wordCmp x y) (orL ((List.range (min a.length b.length)).map fun i => wordCmp (a.getD i []) (b.getD i [])))) _
      rw [ih b]
      have hn : cmpN (x :: a).length (y :: b).length = cmpN a.length b.length := by unfold cmpN; simp
      rw [hn]
      unfold or3
      split <;> simp_all
theorem preK_eq (v u : Ver) : preK (fun i => wordCmp (v.pre.getD i []) (u.pre.getD i [])) v.pre.length u.pre.length = preCmp v.pre u.pre := by
  unfold preK preCmp
  by_cases hv : v.pre = []
  · by_cases hu : u.pre = []
    · simp [hv, hu, cmpN]
    · have : 0 < u.pre.length := List.length_pos_iff.2 hu
      simp [hv, hu, cmpN, this]
  · have h1 : 0 < v.pre.length := List.length_pos_iff.2 hv
    by_cases hu : u.pre = []
    · simp [hv, hu, cmpN, h1]
    · have h2 : 0 < u.pre.length := List.length_pos_iff.2 hu
      rw [if_neg (by omega), if_neg hv, if_neg hu, cmpLs_getD]
theorem verCmp_parts (v u : Ver) : (if ofL v.major = ofL u.major ∧ ofL v.minor = ofL u.minor ∧ ofL v.patch = ofL u.patch then preK (fun i => wordCmp (v.pre.getD i []) (u.pre.getD i [])) (v.pre.map ofL).length (u.pre.map ofL).length else orL [numCmp v.major u.major, numCmp v.minor u.minor, numCmp v.patch u.patch]) = verCmp' v u := by
  rw [List.length_map, List.length_map, preK_eq]
  unfold verCmp'
  have hs : ∀ x : Str, numCmp x x = 0 := numCmp_total.self
  have h0 : ∀ x y : Str, numCmp x y = 0 → x = y := fun x y => numCmp_total.eq0 x y trivial trivial
  by_cases heq : ofL v.major = ofL u.major ∧ ofL v.minor = ofL u.minor ∧ ofL v.patch = ofL u.patch
  · rw [if_pos heq, ofL_inj heq.1, ofL_inj heq.2.1, ofL_inj heq.2.2, hs, hs, hs]
    rfl
  · rw [if_neg heq]
    have hz : ∀ x : Int, or3 x 0 = x := fun x => by unfold or3; split <;> omega
    simp only [orL, hz]
    by_cases e0 : numCmp v.major u.major = 0
    · rw [e0]
      show or3 _ _ = or3 _ _
      by_cases e1 : numCmp v.minor u.minor = 0
      · rw [e1]
        have e2 : ¬ numCmp v.patch u.patch = 0 := fun e2 => heq ⟨by rw [h0 _ _ e0], by rw [h0 _ _ e1], by rw [h0 _ _ e2]⟩
        show numCmp v.patch u.patch = or3 _ _
        rw [or3_or3 _ _ e2]
        simp [or3]
      · rw [or3_or3 _ _ e1, or3_or3 _ _ e1]
    · rw [or3_or3 _ _ e0, or3_or3 _ _ e0]
theorem verSplit_sz {s : Str} {v : Ver} (h : verSplit s = some v) (hs : Sz s) : Sz v.major ∧ Sz v.minor ∧ Sz v.patch ∧ (∀ x ∈ v.pre, Sz x) ∧ numMay v.major = true ∧ numMay v.minor = true ∧ numMay v.patch = true := by
  unfold verSplit at h
  split at h
  · rename_i r
    have hr : Sz r := by unfold Sz at *; simp at hs; omega
    have ht : Sz (r.takeWhile (· != 45)) := by
      have := (List.takeWhile_sublist (fun x : UInt8 => x != 45) (l := r)).length_le
      unfold Sz at *; omega
    have hd : (r.dropWhile (· != 45)).length ≤ r.length := (List.dropWhile_sublist (fun x : UInt8 => x != 45) (l := r)).length_le
    split at h
    · rename_i a b c e
      have hp := parts_sz 46 _ ht
      rw [e] at hp
      split at h
      · rename_i hm
        simp only [Bool.and_eq_true] at hm
        split at h
        · injection h with h
          subst h
          exact ⟨hp a (by simp), hp b (by simp), hp c (by simp), by simp, hm.1.1, hm.1.2, hm.2⟩
        · rename_i x q e2
          split at h
          · injection h with h
            subst h
            refine ⟨hp a (by simp), hp b (by simp), hp c (by simp), fun y hy => parts_sz 46 q ?_ y hy, hm.1.1, hm.1.2, hm.2⟩
            rw [e2] at hd
            unfold Sz at *; simp at hd; omega
          · cases h
      · cases h
    · cases h
  · cases h
theorem und3 : Tryz.prog.underlying 202 = some (.array 3 9) := by kernel_rfl
set_option maxRecDepth 100000 in
theorem run_eq3 (a0 a1 a2 b0 b1 b2 : ByteArray) (w : World) :
    (Op.equalIn 10000 202 (.agg #[.string a0, .string a1, .string a2]) (.agg #[.string b0, .string b1, .string b2])).run Tryz.prog w = .ok (decide (a0 = b0 ∧ a1 = b1 ∧ a2 = b2)) w := by
  have hu := und3
  have hs : (Go.sizeOf 9).run Tryz.prog w = .ok 1 w := Tryz.sizeOf9 w
  have hss : Tryz.prog.underlying 9 = some .string := by kernel_rfl
  rw [show (10000 : Nat) = 9999 + 1 from rfl]
  rw [Op.equalIn]
  simp only [Sem.run_bind, run_underlying hu, Result.andThen_ok, hs]
  simp only [Std.Legacy.Range.forIn_eq_forIn_range', Std.Legacy.Range.size]
  simp
  have h9 : (9999 : Nat) = 9998 + 1 := rfl
  rw [show List.range' 0 3 = [0, 1, 2] from rfl]
  simp only [List.forIn_cons, List.forIn_nil, Sem.run_bind]
  go_simp
  have e : ∀ x y : ByteArray, (x.toList = y.toList) = (x = y) := fun x y => propext ⟨fun h => ext_data (by rw [← toList_data, ← toList_data]; exact h), fun h => by rw [h]⟩
  simp only [e]
  by_cases h0 : a0 = b0
  · by_cases h1 : a1 = b1
    · by_cases h2 : a2 = b2 <;> simp [h0, h1, h2]
    · simp [h0, h1]
  · simp [h0]
set_option maxHeartbeats 8000000 in
set_option maxRecDepth 1000000 in
theorem version_Cmp_core (a0 a1 x0 x1 x2 y0 y1 y2 : ByteArray) (xs ys : List ByteArray) (n0 n1 n2 : Int) (cw : Nat → Int) (w : World)
    (s0 : ∀ w, Calls Tryz.prog 150 #[.string a0] w (SplitOk x0 x1 x2 xs w))
    (s1 : ∀ w, Calls Tryz.prog 150 #[.string a1] w (SplitOk y0 y1 y2 ys w))
    (m0 : ∀ w, Calls Tryz.prog 178 #[.string x0, .string y0] w fun e w' => e = .returned (.int .i64 n0) ∧ Below w.heap.size w w')
    (m1 : ∀ w, Calls Tryz.prog 178 #[.string x1, .string y1] w fun e w' => e = .returned (.int .i64 n1) ∧ Below w.heap.size w w')
    (m2 : ∀ w, Calls Tryz.prog 178 #[.string x2, .string y2] w fun e w' => e = .returned (.int .i64 n2) ∧ Below w.heap.size w w')
    (ws : ∀ i (hi : i < xs.length) (hj : i < ys.length) w, Calls Tryz.prog 180 #[.string xs[i], .string ys[i]] w fun e w' => e = .returned (.int .i64 (cw i)) ∧ Below w.heap.size w w') :
    Calls Tryz.prog 157 #[.string a0, .string a1] w fun e w' => e = .returned (.tuple #[.int .i64 (if x0 = y0 ∧ x1 = y1 ∧ x2 = y2 then preK cw xs.length ys.length else orL [n0, n1, n2]), .int .i64 0]) ∧ Below w.heap.size w w' := by
  have hu146 := Tryz.underlying146
  have M0 := Aside0.mk m0; have M1 := Aside0.mk m1; have M2 := Aside0.mk m2; have WS := Aside0.mk ws
  clear m0 m1 m2 ws
  obtain ⟨res, hres⟩ : ∃ r : Int, (if x0 = y0 ∧ x1 = y1 ∧ x2 = y2 then preK cw xs.length ys.length else orL [n0, n1, n2]) = r := ⟨_, rfl⟩
  rw [hres]
  have RES := Aside0.mk hres
  clear hres
  go_enter Tryz.func157, Tryz.ntmps157
  go_wp2_with (first | (go_at_call 150; (with_reducible refine (s0 _).mono ?_); rintro e w1 ⟨A, c, rfl, hc1, hb1⟩) | (go_at_call 150; (with_reducible refine (s1 _).mono ?_); rintro e w2 ⟨A', c', rfl, hc2, hb2⟩))
  have S : VSt w w1.heap.size w2.heap.size x0 x1 x2 xs y0 y1 y2 ys A c A' c' (w2.alloc (.cells #[.string y0, .string y1, .string y2, .slice A' ys.length c'] 146)) := by
    have e1 := (Below.refl _ _).alloc (Nat.le_refl _) (.cells #[.string x0, .string x1, .string x2, .slice A xs.length c] 146) (w := w1)
    have e2 := (Below.refl _ _).alloc (Nat.le_refl _) (.cells #[.string y0, .string y1, .string y2, .slice A' ys.length c'] 146) (w := w2)
    refine ⟨?_, heap_alloc_new _ _, Kd.C_below (Kd.C_below (Kd.C_below hc1 e1) hb2) e2, Kd.C_below hc2 e2, ?_⟩
    · rw [Below.heap_alloc _ _ _ (Nat.lt_of_lt_of_le (by simp) hb2.size), hb2.block _ (by simp)]
      exact heap_alloc_new _ _
    · exact below_then (below_then (below_then hb1 hb1.size e1) (by simp; have := hb1.size; omega) hb2) (by have := hb1.size; have := hb2.size; simp at *; omega) e2
  generalize w1.heap.size = bx at S ⊢
  generalize w2.heap.size = by_ at S ⊢
  generalize w2.alloc (.cells #[.string y0, .string y1, .string y2, .slice A' ys.length c'] 146) = wq at S ⊢
  obtain ⟨k0, k1, k2, _, l0, l1, l2, _⟩ := S.cells
  have HS := Aside0.mk S
  clear S
  go_cut [10, 11] (fun v10 v11 wc => ∃ g h : Nat, v10 = .pointer (some ⟨g, 0, none⟩) ∧ v11 = .pointer (some ⟨h, 0, none⟩) ∧ Aside0 (wc.heap[g]? = some (.cells #[.string x0, .string x1, .string x2] 202 (0, 0))) ∧ Aside0 (wc.heap[h]? = some (.cells #[.string y0, .string y1, .string y2] 202 (0, 0))) ∧ Aside0 (VSt w bx by_ x0 x1 x2 xs y0 y1 y2 ys A c A' c' wc))
  case first =>
    go_region_held3 (fun wx => wx.cell? ⟨bx, 0, none⟩ = some (.string x0) ∧ wx.cell? ⟨bx, 1, none⟩ = some (.string x1) ∧ wx.cell? ⟨bx, 2, none⟩ = some (.string x2) ∧ wx.cell? ⟨by_, 0, none⟩ = some (.string y0) ∧ wx.cell? ⟨by_, 1, none⟩ = some (.string y1) ∧ wx.cell? ⟨by_, 2, none⟩ = some (.string y2)) (go_keep) (fail)
    · obtain ⟨q1, q2, q3⟩ := two_new wq (.cells #[.string x0, .string x1, .string x2] 202 (0, 0)) (.cells #[.string y0, .string y1, .string y2] 202 (0, 0))
      have N1 := Aside0.mk q1
      have N2 := Aside0.mk q2
      have N3 := Aside0.mk (HS.out.below q3)
      clear q1 q2 q3
      go_wp2_with fail
      go_meet
      case rel => exact ⟨_, _, rfl, rfl, N1, N2, N3⟩
    · obtain ⟨q1, q2, q3⟩ := two_new wq (.cells #[.string y0, .string y1, .string y2] 202 (0, 0)) (.cells #[.string x0, .string x1, .string x2] 202 (0, 0))
      have N1 := Aside0.mk q1
      have N2 := Aside0.mk q2
      have N3 := Aside0.mk (HS.out.below q3)
      clear q1 q2 q3
      go_wp2_with fail
      go_meet
      case rel => exact ⟨_, _, rfl, rfl, N2, N1, N3⟩
  case rest =>
    clear hc1 hc2 hb1 hb2 k0 k1 k2 l0 l1 l2 HS s0 s1
    obtain ⟨g, h, rfl, rfl, G, H, HS⟩ := hcut
    have g0 := cell_of_row wc g 0 _ _ _ G.out
    have g1 := cell_of_row wc g 1 _ _ _ G.out
    have g2 := cell_of_row wc g 2 _ _ _ G.out
    have h0 := cell_of_row wc h 0 _ _ _ H.out
    have h1 := cell_of_row wc h 1 _ _ _ H.out
    have h2 := cell_of_row wc h 2 _ _ _ H.out
    simp only [List.getElem?_toArray, List.getElem?_cons_zero, List.getElem?_cons_succ] at g0 g1 g2 h0 h1 h2
    have hneq : ∀ w : World, (binOp .neq 202 (.agg #[.string x0, .string x1, .string x2]) (.agg #[.string y0, .string y1, .string y2])).run Tryz.prog w = .ok (.bool (!decide (x0 = y0 ∧ x1 = y1 ∧ x2 = y2))) w := by
      intro w
      rw [run_neq_struct, run_eq3]
      rfl
    have hgd : Tryz.prog.eqGuardType Tryz.prog.depth 202 = false := by kernel_rfl
    by_cases heq : x0 = y0 ∧ x1 = y1 ∧ x2 = y2
    · rw [decide_eq_true heq] at hneq
      have R2 := Aside0.mk RES.out
      rw [if_pos heq] at R2
      clear RES heq
      obtain ⟨_, _, _, kx, _, _, _, ky⟩ := HS.out.cells
      by_cases hn : xs.length = 0
      · have tn : ((xs.length : Int) == 0) = true := by rw [hn]; rfl
        have HN := Aside0.mk hn
        clear hn
        go_wp2_with (first | (go_at_call 179; (with_reducible refine (cmp_Compare_int.calls _ _ _ _ (cmp_Compare_int_ev _ _)).mono ?_); rintro e w3 ⟨rfl, hd⟩))
        go_ret2
        refine ⟨?_, ?_⟩
        · rw [← R2.out]
          unfold preK
          rw [if_pos (Or.inl HN.out)]
          rfl
        · obtain ⟨nd, rfl⟩ := hd
          exact pw_below_drewN HS.out.b _
      · by_cases hm : ys.length = 0
        · have tn : ((xs.length : Int) == 0) = false := beq_eq_false_iff_ne.2 (by omega)
          have tm : ((ys.length : Int) == 0) = true := by rw [hm]; rfl
          have HM := Aside0.mk hm
          clear hm hn
          go_wp2_with (first | (go_at_call 179; (with_reducible refine (cmp_Compare_int.calls _ _ _ _ (cmp_Compare_int_ev _ _)).mono ?_); rintro e w3 ⟨rfl, hd⟩))
          go_ret2
          refine ⟨?_, ?_⟩
          · rw [← R2.out]
            unfold preK
            rw [if_pos (Or.inr HM.out)]
            rfl
          · obtain ⟨nd, rfl⟩ := hd
            exact pw_below_drewN HS.out.b _
        · have tn : ((xs.length : Int) == 0) = false := beq_eq_false_iff_ne.2 (by omega)
          have tm : ((ys.length : Int) == 0) = false := beq_eq_false_iff_ne.2 (by omega)
          have HNM := Aside0.mk (And.intro hn hm)
          clear hm hn
          obtain ⟨N, hN⟩ : ∃ N : Nat, min xs.length ys.length = N := ⟨_, rfl⟩
          have emin : min (xs.length : Int) (ys.length : Int) = (N : Int) := by omega
          have hNx : N ≤ xs.length := by omega
          have hNy : N ≤ ys.length := by omega
          have hbig : xs.length ≤ 9223372036854775807 := HS.out.cx.2.1
          have HNE := Aside0.mk hN
          clear hN
          go_wp2
          clear emin kx ky
          go_loopg [12, 13, 88] N (fun gg s12 s13 s88 wx => ∃ i : Nat, i + gg = N ∧ s88 = .int .i64 i ∧ Aside0 (VSt w bx by_ x0 x1 x2 xs y0 y1 y2 ys A c A' c' wx) ∧ Aside0 (∀ j, j < i → cw j = 0))
          case atStart => exact ⟨0, by omega, rfl, HS, ⟨fun j hj => absurd hj (by omega)⟩⟩
          case round =>
            obtain ⟨i, hig, rfl, HX, HZ⟩ := hrel
            cases gk with
            | zero =>
              obtain rfl : i = N := by omega
              obtain ⟨_, _, _, kx, _, _, _, ky⟩ := HX.out.cells
              have hiz : ¬ ((i : Int) < (i : Int)) := by omega
              go_wp2_with (first | (go_at_call 179; (with_reducible refine (cmp_Compare_int.calls _ _ _ _ (cmp_Compare_int_ev _ _)).mono ?_); rintro e w3 ⟨rfl, hd⟩))
              go_ret2
              refine ⟨?_, ?_⟩
              · rw [← R2.out]
                unfold preK
                have hz : orL ((List.range i).map cw) = 0 := orL_zero _ (by
                  intro x hx
                  obtain ⟨j, hj, rfl⟩ := List.mem_map.1 hx
                  exact HZ.out j (List.mem_range.1 hj))
                rw [if_neg (by have := HNM.out; omega), HNE.out, hz]
                rfl
              · obtain ⟨nd, rfl⟩ := hd
                exact pw_below_drewN HX.out.b _
            | succ gg =>
              have hix : i < xs.length := by omega
              have hiy : i < ys.length := by omega
              have hiz : (i : Int) < (N : Int) := by omega
              have hizx : (i : Int) < (xs.length : Int) := by omega
              have hizy : (i : Int) < (ys.length : Int) := by omega
              obtain ⟨_, _, _, kx, _, _, _, ky⟩ := HX.out.cells
              obtain ⟨ax, ex, hx⟩ := Kd.at_string HX.out.cx (i : Int) (by omega) hizx
              obtain ⟨ay, ey, hy⟩ := Kd.at_string HX.out.cy (i : Int) (by omega) hizy
              rw [rdOf_at _ _ _ hix] at hx
              rw [rdOf_at _ _ _ hiy] at hy
              simp only [Int.toNat_natCast] at hx hy
              have hW := fun w => WS.out i hix hiy w
              generalize xs[i] = p at hx hW
              generalize ys[i] = q at hy hW
              cases ex
              cases ey
              have hS0 : Held13 bx by_ xs.length ys.length ax ay c c' i p q wr wr.drew := ⟨kx, ky, hx, hy, below_drew1 (Below.refl _ _)⟩
              clear kx ky hx hy
              go_wp2
              go_cut [13] (fun v13 wc => v13 = .int .i64 (cw i) ∧ Aside0 (Below wr.heap.size wr wc))
              case first =>
                go_region_held3 (fun wx => wx.cell? ⟨bx, 3, none⟩ = some (.slice (some ax) xs.length c) ∧ wx.cell? ⟨by_, 3, none⟩ = some (.slice (some ay) ys.length c') ∧ wx.cell? (ax.add i) = some (.string p) ∧ wx.cell? (ay.add i) = some (.string q) ∧ Below wr.heap.size wr wx) (first | exact hS0 | exact Held13.below hb (by assumption)) (first | (go_at_call 180; (with_reducible refine (hW _).mono ?_); rintro e w3 ⟨rfl, hb⟩))
                obtain ⟨_, _, _, _, hbb⟩ := (by assumption : w3.cell? ⟨bx, 3, none⟩ = some (.slice (some ax) xs.length c) ∧ w3.cell? ⟨by_, 3, none⟩ = some (.slice (some ay) ys.length c') ∧ w3.cell? (ax.add i) = some (.string p) ∧ w3.cell? (ay.add i) = some (.string q) ∧ Below wr.heap.size wr w3)
                have HBB := Aside0.mk hbb
                clear hbb
                go_wp2_with fail
                go_meet
                case rel => exact ⟨rfl, HBB⟩
              case rest =>
                obtain ⟨rfl, HBB⟩ := hcut
                have HX2 := Aside0.mk (HX.out.below HBB.out)
                clear hS0 hW
                by_cases hz : cw i = 0
                · have tz : (cw i != 0) = false := by rw [hz]; rfl
                  have HZI := Aside0.mk hz
                  clear hz
                  go_wp2
                  go_roundg gg
                  case measure => omega
                  case rel =>
                    refine ⟨i + 1, by omega, by go_num, HX2, ⟨fun j hj => ?_⟩⟩
                    by_cases e : j = i
                    · rw [e]; exact HZI.out
                    · exact HZ.out j (by omega)
                · have tz : (cw i != 0) = true := by simpa using hz
                  have HZI := Aside0.mk hz
                  clear hz
                  go_wp2
                  go_ret2
                  refine ⟨?_, HX2.out.b⟩
                  rw [← R2.out]
                  unfold preK
                  have hor : orL ((List.range N).map cw) = cw i := orL_first N cw i (by omega) HZ.out HZI.out
                  rw [if_neg (by have := HNM.out; omega), HNE.out, hor]
                  unfold or3
                  rw [if_neg HZI.out]
                  rfl
    · rw [decide_eq_false heq] at hneq
      have R2 := Aside0.mk RES.out
      rw [if_neg heq] at R2
      have hOr : ∀ W : World, Calls Tryz.prog 159 #[.slice (some ⟨W.heap.size, 0, none⟩) 3 3] (W.alloc (.cells #[.int .i64 n0, .int .i64 n1, .int .i64 n2] 3)) fun e w' => e = .returned (.int .i64 res) ∧ Drawn0 (W.alloc (.cells #[.int .i64 n0, .int .i64 n1, .int .i64 n2] 3)) w' := by
        intro W
        obtain ⟨k, hk⟩ := (cmp_Or_ev [n0, n1, n2] (by simp)).get
        rw [R2.out] at hk
        exact cmp_Or_int.calls k (some ⟨W.heap.size, 0, none⟩) 3 [n0, n1, n2] res _ (C_lit3 W n0 n1 n2) (by simp) hk
      clear RES heq R2
      have S0 : Held7 g h x0 x1 x2 y0 y1 y2 wc wc.drew := ⟨g0, g1, g2, h0, h1, h2, below_drew1 (Below.refl _ _)⟩
      have m0 := M0.out; have m1 := M1.out; have m2 := M2.out
      go_wp2
      clear g0 g1 g2 h0 h1 h2
      go_region_held3 (fun wx => wx.cell? ⟨g, 0, none⟩ = some (.string x0) ∧ wx.cell? ⟨g, 1, none⟩ = some (.string x1) ∧ wx.cell? ⟨g, 2, none⟩ = some (.string x2) ∧ wx.cell? ⟨h, 0, none⟩ = some (.string y0) ∧ wx.cell? ⟨h, 1, none⟩ = some (.string y1) ∧ wx.cell? ⟨h, 2, none⟩ = some (.string y2) ∧ Below wc.heap.size wc wx) (first | exact S0 | exact Held7.below hb (by assumption) | exact Held7.alloc _ (by assumption)) (first | (go_at_call 178; (with_reducible refine (m0 _).mono ?_); rintro e w3 ⟨rfl, hb⟩) | (go_at_call 178; (with_reducible refine (m1 _).mono ?_); rintro e w3 ⟨rfl, hb⟩) | (go_at_call 178; (with_reducible refine (m2 _).mono ?_); rintro e w3 ⟨rfl, hb⟩) | (go_at_call 159; (with_reducible refine (hOr _).mono ?_); rintro e w3 ⟨rfl, hd⟩; have hb := below_of_drawn hd; clear hd))
      have hh : Held7 g h x0 x1 x2 y0 y1 y2 wc w3 := by assumption
      have HF := Aside0.mk (below_then HS.out.b HS.out.b.size hh.2.2.2.2.2.2)
      clear hh
      go_wp2
      go_ret2
      exact ⟨rfl, HF.out⟩
theorem version_Cmp_ok (a0 a1 : ByteArray) (v u : Ver) (w : World) (h0 : a0.size < 4294967281) (h1 : a1.size < 4294967281) (hv : verSplit a0.data.toList = some v) (hu : verSplit a1.data.toList = some u) :
    Calls Tryz.prog 157 #[.string a0, .string a1] w fun e w' => e = .returned (.tuple #[.int .i64 (verCmp' v u), .int .i64 0]) ∧ Below w.heap.size w w' := by
  have bv := verSplit_sz hv (by rw [size_data] at h0; exact h0)
  have bu := verSplit_sz hu (by rw [size_data] at h1; exact h1)
  obtain ⟨v0, v1, v2, vp, mv0, mv1, mv2⟩ := bv
  obtain ⟨u0, u1, u2, up, mu0, mu1, mu2⟩ := bu
  obtain ⟨k0, e0⟩ := (version_numbers_ev v.major u.major v0 u0 mv0 mu0).get
  obtain ⟨k1, e1⟩ := (version_numbers_ev v.minor u.minor v1 u1 mv1 mu1).get
  obtain ⟨k2, e2⟩ := (version_numbers_ev v.patch u.patch v2 u2 mv2 mu2).get
  have hc := version_Cmp_core a0 a1 (ofL v.major) (ofL v.minor) (ofL v.patch) (ofL u.major) (ofL u.minor) (ofL u.patch) (v.pre.map ofL) (u.pre.map ofL) _ _ _ (fun i => wordCmp (v.pre.getD i []) (u.pre.getD i [])) w
    (fun w => version_Split_ok a0 v w h0 hv) (fun w => version_Split_ok a1 u w h1 hu)
    (fun w => version_numbers.calls k0 _ _ _ w e0) (fun w => version_numbers.calls k1 _ _ _ w e1) (fun w => version_numbers.calls k2 _ _ _ w e2)
    (fun i hi hj w => by
      rw [List.length_map] at hi hj
      obtain ⟨k, hk⟩ := (version_words_ev v.pre[i] u.pre[i] (vp _ (List.getElem_mem hi)) (up _ (List.getElem_mem hj))).get
      rw [List.getElem_map, List.getElem_map]
      have e : wordCmp v.pre[i] u.pre[i] = wordCmp (v.pre.getD i []) (u.pre.getD i []) := by
        rw [List.getD_eq_getElem?_getD, List.getD_eq_getElem?_getD, List.getElem?_eq_getElem hi, List.getElem?_eq_getElem hj]; rfl
      rw [e] at hk
      exact version_words.calls k _ _ _ w hk)
  refine hc.mono ?_
  rintro e w' ⟨rfl, hb⟩
  refine ⟨?_, hb⟩
  rw [verCmp_parts]
theorem version_Split_any (s : ByteArray) (w : World) (h : s.size < 4294967281) :
    Calls Tryz.prog 150 #[.string s] w (SplitAny (if (verSplit s.data.toList).isSome then 0 else 1) w) := by
  cases ho : verSplit s.data.toList with
  | none => exact (version_Split_no' s w h ho).mono fun e w' hh => hh
  | some v =>
    refine (version_Split_ok s v w h ho).mono ?_
    rintro e w' ⟨A, c, rfl, hc, hb⟩
    exact ⟨_, _, _, _, _, _, rfl, hb⟩
set_option maxHeartbeats 2000000 in
set_option maxRecDepth 1000000 in
theorem version_Cmp_bad (a0 a1 : ByteArray) (w : World) (h0 : a0.size < 4294967281) (h1 : a1.size < 4294967281) (hb : verSplit a0.data.toList = none ∨ verSplit a1.data.toList = none) :
    Calls Tryz.prog 157 #[.string a0, .string a1] w fun e w' => e = .returned (.tuple #[.int .i64 0, .int .i64 1]) ∧ Below w.heap.size w w' := by
  have s0 := fun w => version_Split_any a0 w h0
  have s1 := fun w => version_Split_any a1 w h1
  have hu146 := Tryz.underlying146
  have hz : (if (verSplit a0.data.toList).isSome then (0 : Int) else 1) ≠ 0 ∨ (if (verSplit a0.data.toList).isSome then (0 : Int) else 1) = 0 ∧ (if (verSplit a1.data.toList).isSome then (0 : Int) else 1) ≠ 0 := by
    rcases hb with e | e <;> rw [e]
    · exact Or.inl (by simp)
    · cases verSplit a0.data.toList
      · exact Or.inl (by simp)
      · exact Or.inr (by simp)
  generalize (if (verSplit a0.data.toList).isSome then (0 : Int) else 1) = z0 at s0 hz
  generalize (if (verSplit a1.data.toList).isSome then (0 : Int) else 1) = z1 at s1 hz
  clear h0 h1 hb
  have fin : ∀ (w1 w2 : World) (X Y : Obj), Below w.heap.size w w1 → Below (w1.alloc X).heap.size (w1.alloc X) w2 → Below w.heap.size w (w2.alloc Y) := fun w1 w2 X Y hb1 hb2 =>
    below_then (below_then (below_then hb1 hb1.size ((Below.refl _ _).alloc (Nat.le_refl _) X)) (by simp; have := hb1.size; omega) hb2) (by have := hb1.size; have := hb2.size; simp at *; omega) ((Below.refl _ _).alloc (Nat.le_refl _) Y)
  have FIN := Aside0.mk fin
  clear fin
  rcases hz with hz | ⟨hz, hz1⟩
  · have t0 : (z0 != 0) = true := by simpa using hz
    clear hz
    go_enter Tryz.func157, Tryz.ntmps157
    go_wp2_with (first | (go_at_call 150; (with_reducible refine (s0 _).mono ?_); rintro e w1 ⟨a, b, c, A, n, m, rfl, hb1⟩) | (go_at_call 150; (with_reducible refine (s1 _).mono ?_); rintro e w2 ⟨a', b', c', A', n', m', rfl, hb2⟩))
    go_ret2
    exact ⟨rfl, FIN.out _ _ _ _ hb1 hb2⟩
  · have t0 : (z0 != 0) = false := by rw [hz]; rfl
    have t1 : (z1 != 0) = true := by simpa using hz1
    clear hz hz1
    go_enter Tryz.func157, Tryz.ntmps157
    go_wp2_with (first | (go_at_call 150; (with_reducible refine (s0 _).mono ?_); rintro e w1 ⟨a, b, c, A, n, m, rfl, hb1⟩) | (go_at_call 150; (with_reducible refine (s1 _).mono ?_); rintro e w2 ⟨a', b', c', A', n', m', rfl, hb2⟩))
    go_ret2
    exact ⟨rfl, FIN.out _ _ _ _ hb1 hb2⟩
def version_Cmp.f (a0 a1 : ByteArray) : Option (Int × Int) :=
  if a0.size < 4294967281 ∧ a1.size < 4294967281 then some (if verMay a0.data.toList && verMay a1.data.toList then (verCmp a0.data.toList a1.data.toList, 0) else (0, 1)) else none
theorem version_Cmp.calls (a0 : ByteArray) (a1 : ByteArray) (r1 : Int) (r2 : Int) (w : World) (h : version_Cmp.f a0 a1 = some (r1, r2)) :
    Calls Tryz.prog 157 #[.string a0, .string a1] w fun e w' => e = .returned (.tuple #[.int .i64 r1, .int .i64 r2]) ∧ Below w.heap.size w w' := by
  unfold version_Cmp.f at h
  split at h
  case isFalse => cases h
  rename_i hs
  have h := Option.some.inj h
  unfold verMay verCmp verOf at h
  cases hv : verSplit a0.data.toList with
  | none =>
    rw [hv] at h
    simp only [Option.isSome_none, Bool.false_and, Bool.false_eq_true, if_false, Prod.mk.injEq] at h
    obtain ⟨rfl, rfl⟩ := h
    exact version_Cmp_bad a0 a1 w hs.1 hs.2 (Or.inl hv)
  | some v =>
    cases hu : verSplit a1.data.toList with
    | none =>
      rw [hv, hu] at h
      simp only [Option.isSome_none, Bool.and_false, Bool.false_eq_true, if_false, Prod.mk.injEq] at h
      obtain ⟨rfl, rfl⟩ := h
      exact version_Cmp_bad a0 a1 w hs.1 hs.2 (Or.inr hu)
    | some u =>
      rw [hv, hu] at h
      simp only [Option.isSome_some, Bool.and_self, if_true, Prod.mk.injEq, Option.getD_some] at h
      obtain ⟨rfl, rfl⟩ := h
      exact version_Cmp_ok a0 a1 v u w hs.1 hs.2 hv hu
end Go.Proofs.YtjfcmkddeglghaaGreatDoor.G
end
section
namespace Go.Proofs.YtjfcmkddeglghaaGreatDoor.G
open Go.RowKit Go.Proofs.YtjfcmkddeglghaaGreatDoorW.PrintWords Go.Proofs.YtjfcmkddeglghaaGreatDoorW.PrintLast Go.Proofs.YtjfcmkddeglghaaGreatDoorW.PrintMore
attribute [local go_sem] max2_int min2_int max_two min_two max_three min_three max_four min_four
set_option linter.unusedVariables false
set_option linter.unusedSimpArgs false
attribute [local go_sem high] eqA24
def node_order.f (k : Nat) (a0_0 : ByteArray) (a0_1 : ByteArray) (a1_0 : ByteArray) (a1_1 : ByteArray) : Option (Int) := if (a0_0.toList == a1_0.toList && (a0_1.toList == a1_1.toList)) = true then (some 0) else ((version_Cmp.f a0_1 a1_1).bind fun bt191 => ((octet_Cmp.f a0_0 a1_0).bind fun t193 => ((cmp_Or_int.f k (([t193, bt191.1] : List Int))).bind fun t197 => (some t197))))
set_option maxHeartbeats 8000000 in
set_option maxRecDepth 100000 in
theorem node_order.calls (k : Nat) (a0_0 : ByteArray) (a0_1 : ByteArray) (a1_0 : ByteArray) (a1_1 : ByteArray) (r : Int) (w : World) (h : node_order.f k a0_0 a0_1 a1_0 a1_1 = some r) :
  Calls Tryz.prog 125 #[.agg #[.string a0_0, .string a0_1], .agg #[.string a1_0, .string a1_1]] w fun e w' => e = .returned (.int .i64 r) ∧ Below w.heap.size w w' := by
 have hu24 := Tryz.underlying24
 have HB := Aside0.mk (Below.refl w.heap.size w)
 have H : (if (a0_0.toList == a1_0.toList && (a0_1.toList == a1_1.toList)) = true then (some 0) else ((version_Cmp.f a0_1 a1_1).bind fun bt191 => ((octet_Cmp.f a0_0 a1_0).bind fun t193 => ((cmp_Or_int.f k (([t193, bt191.1] : List Int))).bind fun t197 => (some t197))))) = some r := h
 clear h
 by_cases c3 : (a0_0.toList == a1_0.toList && (a0_1.toList == a1_1.toList)) = true
 ·rw [if_pos c3] at H
  have c3b0 : (a0_0.toList == a1_0.toList && (a0_1.toList == a1_1.toList)) = true := c3
  (try (have c3b1 : decide (a0_0.toList = a1_0.toList && (a0_1.toList == a1_1.toList)) = true := by simpa using c3))
  (try (have c3b2 : (a0_0.toList == a1_0.toList && (a0_1.toList == a1_1.toList)) = true := by simpa using c3))
  clear c3
  obtain rfl := Option.some.inj H
  go_enter Tryz.func125, Tryz.ntmps125
  go_wp2_with (first | ((with_reducible refine gate_dst (N := 2) rfl ?_); refine box_event ?hg (N := 2) ?hd (cs := #[.string a0_0, .string a0_1]) (t := 24) ?hr ?_; (case hd => rfl); (case hg => rfl); (case hr => first | (go_simp; done) | (go_simp; rfl)); intro gb189 hg w4 hbox hb; have n0_ := bs HB hb; have n1_ := Aside0.mk (hbox); have n2_ := gz hg HB; have n3_ := gz hg HB; revert n0_ n1_ n2_ n3_; clear HB; intro HB BK189 GW189 GE189; clear hb hbox hg) | ((with_reducible refine gate_dst (N := 3) rfl ?_); refine box_event ?hg (N := 3) ?hd (cs := #[.string a1_0, .string a1_1]) (t := 24) ?hr ?_; (case hd => rfl); (case hg => rfl); (case hr => first | (go_simp; done) | (go_simp; rfl)); intro gb190 hg w5 hbox hb; have n0_ := bb BK189 hb; have n1_ := bs HB hb; have n2_ := Aside0.mk (hbox); have n3_ := gz hg HB; have n4_ := gz hg HB; have n5_ := Aside0.mk ((by rw [hg]; exact Nat.ne_of_lt (blk_lt (g := gb189) (o := .cells #[.string a0_0, .string a0_1] 24 (0, 0)) (bk BK189)) : gb189 ≠ gb190)); have n6_ := Aside0.mk ((by rw [hg]; exact Nat.ne_of_gt (blk_lt (g := gb189) (o := .cells #[.string a0_0, .string a0_1] 24 (0, 0)) (bk BK189)) : gb190 ≠ gb189)); revert n0_ n1_ n2_ n3_ n4_ n5_ n6_; clear BK189 HB; intro BK189 HB BK190 GW190 GE190 NB189_190 NB190_189; clear hb hbox hg; have hnb6 := NB189_190.out; have hnc6 := NB190_189.out; have hcz7_0 := bc BK189 0; have hcz7_1 := bc BK189 1; have hfz7_0 := bf BK189 0; have hfz7_1 := bf BK189 1; have hcz8_0 := bc BK190 0; have hcz8_1 := bc BK190 1; have hfz8_0 := bf BK190 0; have hfz8_1 := bf BK190 1))
  go_ret
  exact ⟨by first | rfl | (simp [errW_none, errW_some] <;> rfl) | (simp [*, errW_none, errW_some] <;> rfl), ba HB⟩
 ·rw [if_neg c3] at H
  have c3b0 : (a0_0.toList == a1_0.toList && (a0_1.toList == a1_1.toList)) = false := by simpa using c3
  (try (have c3b1 : decide (a0_0.toList = a1_0.toList && (a0_1.toList == a1_1.toList)) = false := by simpa using c3))
  (try (have c3b2 : (a0_0.toList == a1_0.toList && (a0_1.toList == a1_1.toList)) = false := by simpa using c3))
  (try (have c3b3 : ¬ (a0_0.toList = a1_0.toList && (a0_1.toList == a1_1.toList)) := by simpa using c3))
  clear c3
  obtain ⟨⟨t191, t192⟩, A9, H⟩ := bo H
  replace H : ((octet_Cmp.f a0_0 a1_0).bind fun t193 => ((cmp_Or_int.f k (([t193, t191] : List Int))).bind fun t197 => (some t197))) = some r := H
  obtain ⟨t193, A10, H⟩ := bo H
  obtain ⟨y194, hy194⟩ : ∃ y_ : List Int, y_ = (([t193, t191] : List Int)) := ⟨_, rfl⟩
  replace H : ((cmp_Or_int.f k y194).bind fun t197 => (some t197)) = some r := by first | (rw [hy194]; with_reducible exact H) | (have H2_ := (Option.bind_some _ _).symm.trans H; rw [hy194]; with_reducible exact H2_) | (have H2_ := (Option.bind_some _ _).symm.trans H; with_reducible exact H2_) | with_reducible exact H | (rw [hy194]; exact H) | exact H
  have Ny194 := Aside0.mk hy194
  clear hy194
  obtain ⟨t197, A11, H⟩ := bo H
  obtain rfl := Option.some.inj H
  go_enter Tryz.func125, Tryz.ntmps125
  go_wp2_with (first | ((with_reducible refine gate_dst (N := 2) rfl ?_); refine box_event ?hg (N := 2) ?hd (cs := #[.string a0_0, .string a0_1]) (t := 24) ?hr ?_; (case hd => rfl); (case hg => rfl); (case hr => first | (go_simp; done) | (go_simp; rfl)); intro gb189 hg w12 hbox hb; have n0_ := bs HB hb; have n1_ := Aside0.mk (hbox); have n2_ := gz hg HB; have n3_ := gz hg HB; revert n0_ n1_ n2_ n3_; clear HB; intro HB BK189 GW189 GE189; clear hb hbox hg) | ((with_reducible refine gate_dst (N := 3) rfl ?_); refine box_event ?hg (N := 3) ?hd (cs := #[.string a1_0, .string a1_1]) (t := 24) ?hr ?_; (case hd => rfl); (case hg => rfl); (case hr => first | (go_simp; done) | (go_simp; rfl)); intro gb190 hg w13 hbox hb; have n0_ := bb BK189 hb; have n1_ := bs HB hb; have n2_ := Aside0.mk (hbox); have n3_ := gz hg HB; have n4_ := gz hg HB; have n5_ := Aside0.mk ((by rw [hg]; exact Nat.ne_of_lt (blk_lt (g := gb189) (o := .cells #[.string a0_0, .string a0_1] 24 (0, 0)) (bk BK189)) : gb189 ≠ gb190)); have n6_ := Aside0.mk ((by rw [hg]; exact Nat.ne_of_gt (blk_lt (g := gb189) (o := .cells #[.string a0_0, .string a0_1] 24 (0, 0)) (bk BK189)) : gb190 ≠ gb189)); revert n0_ n1_ n2_ n3_ n4_ n5_ n6_; clear BK189 HB; intro BK189 HB BK190 GW190 GE190 NB189_190 NB190_189; clear hb hbox hg; have hnb14 := NB189_190.out; have hnc14 := NB190_189.out; have hcz15_0 := bc BK189 0; have hcz15_1 := bc BK189 1; have hfz15_0 := bf BK189 0; have hfz15_1 := bf BK189 1; have hcz16_0 := bc BK190 0; have hcz16_1 := bc BK190 1; have hfz16_0 := bf BK190 0; have hfz16_1 := bf BK190 1) | ((with_reducible refine gate_callee (f := 157) rfl ?_); refine gl 15 Tryz.func157 #[.string a0_1, .string a1_1] ?_; (with_reducible refine (version_Cmp.calls a0_1 a1_1 t191 t192 _ A9.out).mono ?_); rintro e w17 ⟨rfl, hb⟩; refine ⟨_, rfl, ?_⟩; have n0_ := bb BK189 hb; have n1_ := bb BK190 hb; have n2_ := bs HB hb; revert n0_ n1_ n2_; clear BK189 BK190 HB; intro BK189 BK190 HB; (try clear hb); have hcz18_0 := bc BK189 0; have hcz18_1 := bc BK189 1; have hfz18_0 := bf BK189 0; have hfz18_1 := bf BK189 1; have hcz19_0 := bc BK190 0; have hcz19_1 := bc BK190 1; have hfz19_0 := bf BK190 0; have hfz19_1 := bf BK190 1) | ((with_reducible refine gate_callee (f := 122) rfl ?_); refine gl 22 Tryz.func122 #[.string a0_0, .string a1_0] ?_; (with_reducible refine (octet_Cmp.calls a0_0 a1_0 t193 _ A10.out).mono ?_); rintro e w' ⟨rfl, ⟨nd, rfl⟩⟩; refine ⟨_, rfl, ?_⟩) | ((with_reducible refine gate_dst (N := 24) rfl ?_); refine Kd.R_lit (Kd.int .i64) _ 3 ?hg (N := 24) ?hd (xs := ([t193, t191] : List Int)) (inner := [.int .i64 t193, .int .i64 t191]) (ok := fun _ => True) (okp := fun _ => True) ?hr ?hp (fun _ hk => hk) trivial (Below.refl _ _) (Nat.le_refl _) (by simp) ?_; (case hd => rfl); (case hg => rfl); (case hr => first | (go_simp; done) | (go_simp; rfl)); (case hp => exact (Reps.one (show Kd.M (Kd.int .i64) _ _ _ t193 [.int .i64 t193] from rfl) (Reps.one (show Kd.M (Kd.int .i64) _ _ _ t191 [.int .i64 t191] from rfl) (Reps.none _ _)))); intro v195 w20 ho21 hb hg_ hnew_; clear hg_ hnew_; (first | rw [← Ny194.out] at ho21 | (simp only [Int.reduceToNat] at ho21; rw [← Ny194.out] at ho21)); have n0_ := Aside0.mk (Kd.R_lower ho21 (bz HB)); have n1_ := bb BK189 hb; have n2_ := bb BK190 hb; have n3_ := bs HB hb; revert n0_ n1_ n2_ n3_; clear BK189 BK190 HB; intro HO196 BK189 BK190 HB; clear hb ho21; obtain ⟨Ao22, co22, eo22⟩ := Kd.R_slice HO196.out; subst eo22) | ((with_reducible refine gate_callee (f := 159) rfl ?_); refine gl 25 Tryz.func159 #[.slice Ao22 y194.length co22] ?_; (with_reducible refine (cmp_Or_int.calls k _ _ y194 t197 _ ?side1 ?side2 A11.out).mono ?_); (case side1 => repeat (first | exact (Kd.R_reads' HO196.out).2.2 | (with_reducible refine Kd.C_alloc ?_ _) | (with_reducible refine Kd.C_drewN ?_ _) | (with_reducible refine Kd.C_drew ?_))); (case side2 => exact (Kd.R_reads' HO196.out).2.1); rintro e w' ⟨rfl, ⟨nd, rfl⟩⟩; refine ⟨_, rfl, ?_⟩))
  go_ret
  exact ⟨by first | rfl | (simp [errW_none, errW_some] <;> rfl) | (simp [*, errW_none, errW_some] <;> rfl), ba HB⟩
end Go.Proofs.YtjfcmkddeglghaaGreatDoor.G
end
section
namespace Go.Proofs.YtjfcmkddeglghaaGreatDoor.G
open Go.RowKit Go.Proofs.YtjfcmkddeglghaaGreatDoorW.PrintWords Go.Proofs.YtjfcmkddeglghaaGreatDoorW.PrintLast Go.Proofs.YtjfcmkddeglghaaGreatDoorW.PrintMore
attribute [local go_sem] max2_int min2_int max_two min_two max_three min_three max_four min_four
set_option linter.unusedVariables false
set_option linter.unusedSimpArgs false
def node_Cmp.f (k : Nat) (a0_0 : ByteArray) (a0_1 : ByteArray) (a1_0 : ByteArray) (a1_1 : ByteArray) : Option (Int × Int) := (node_May.f k a0_0 a0_1).bind fun t200 => (if t200 = true then ((node_May.f k a1_0 a1_1).bind fun t201 => (if t201 = true then ((node_order.f k a0_0 a0_1 a1_0 a1_1).bind fun t202 => (some (t202, 0))) else (some (0, 1)))) else (some (0, 1)))
set_option maxHeartbeats 8000000 in
set_option maxRecDepth 100000 in
theorem node_Cmp.calls (k : Nat) (a0_0 : ByteArray) (a0_1 : ByteArray) (a1_0 : ByteArray) (a1_1 : ByteArray) (r1 : Int) (r2 : Int) (w : World) (h : node_Cmp.f k a0_0 a0_1 a1_0 a1_1 = some (r1, r2)) :
  Calls Tryz.prog 114 #[.agg #[.string a0_0, .string a0_1], .agg #[.string a1_0, .string a1_1]] w fun e w' => e = .returned (.tuple #[.int .i64 r1, .int .i64 r2]) ∧ Below w.heap.size w w' := by
 have hu24 := Tryz.underlying24
 have HB := Aside0.mk (Below.refl w.heap.size w)
 have H : ((node_May.f k a0_0 a0_1).bind fun t200 => (if t200 = true then ((node_May.f k a1_0 a1_1).bind fun t201 => (if t201 = true then ((node_order.f k a0_0 a0_1 a1_0 a1_1).bind fun t202 => (some (t202, 0))) else (some (0, 1)))) else (some (0, 1)))) = some (r1, r2) := h
 clear h
 obtain ⟨t200, A3, H⟩ := bo H
 by_cases c4 : t200 = true
 ·subst c4
  replace H := it H
  obtain ⟨t201, A5, H⟩ := bo H
  by_cases c6 : t201 = true
  ·subst c6
   replace H := it H
   obtain ⟨t202, A7, H⟩ := bo H
   simp only [Option.some.injEq, Prod.mk.injEq] at H
   obtain ⟨rfl, rfl⟩ := H
   go_enter Tryz.func114, Tryz.ntmps114
   go_wp2_with (first | ((with_reducible refine gate_dst (N := 2) rfl ?_); refine box_event ?hg (N := 2) ?hd (cs := #[.string a0_0, .string a0_1]) (t := 24) ?hr ?_; (case hd => rfl); (case hg => rfl); (case hr => first | (go_simp; done) | (go_simp; rfl)); intro gb198 hg w8 hbox hb; have n0_ := bs HB hb; have n1_ := Aside0.mk (hbox); have n2_ := gz hg HB; have n3_ := gz hg HB; revert n0_ n1_ n2_ n3_; clear HB; intro HB BK198 GW198 GE198; clear hb hbox hg) | ((with_reducible refine gate_dst (N := 3) rfl ?_); refine box_event ?hg (N := 3) ?hd (cs := #[.string a1_0, .string a1_1]) (t := 24) ?hr ?_; (case hd => rfl); (case hg => rfl); (case hr => first | (go_simp; done) | (go_simp; rfl)); intro gb199 hg w9 hbox hb; have n0_ := bb BK198 hb; have n1_ := bs HB hb; have n2_ := Aside0.mk (hbox); have n3_ := gz hg HB; have n4_ := gz hg HB; have n5_ := Aside0.mk ((by rw [hg]; exact Nat.ne_of_lt (blk_lt (g := gb198) (o := .cells #[.string a0_0, .string a0_1] 24 (0, 0)) (bk BK198)) : gb198 ≠ gb199)); have n6_ := Aside0.mk ((by rw [hg]; exact Nat.ne_of_gt (blk_lt (g := gb198) (o := .cells #[.string a0_0, .string a0_1] 24 (0, 0)) (bk BK198)) : gb199 ≠ gb198)); revert n0_ n1_ n2_ n3_ n4_ n5_ n6_; clear BK198 HB; intro BK198 HB BK199 GW199 GE199 NB198_199 NB199_198; clear hb hbox hg; have hnb10 := NB198_199.out; have hnc10 := NB199_198.out; have hcz11_0 := bc BK198 0; have hcz11_1 := bc BK198 1; have hfz11_0 := bf BK198 0; have hfz11_1 := bf BK198 1) | ((with_reducible refine gate_callee (f := 76) rfl ?_); refine gl 7 Tryz.func76 #[.agg #[.string a0_0, .string a0_1]] ?_; (with_reducible refine (node_May.calls k a0_0 a0_1 true _ A3.out).mono ?_); rintro e w12 ⟨rfl, hb⟩; refine ⟨_, rfl, ?_⟩; have n0_ := bb BK198 hb; have n1_ := bb BK199 hb; have n2_ := bs HB hb; revert n0_ n1_ n2_; clear BK198 BK199 HB; intro BK198 BK199 HB; (try clear hb); have hcz13_0 := bc BK199 0; have hcz13_1 := bc BK199 1; have hfz13_0 := bf BK199 0; have hfz13_1 := bf BK199 1) | (go_at_call 76; (with_reducible refine (node_May.calls k a1_0 a1_1 true _ A5.out).mono ?_); rintro e w14 ⟨rfl, hb⟩; have n0_ := bb BK198 hb; have n1_ := bb BK199 hb; have n2_ := bs HB hb; revert n0_ n1_ n2_; clear BK198 BK199 HB; intro BK198 BK199 HB; (try clear hb); have hcz15_0 := bc BK198 0; have hcz15_1 := bc BK198 1; have hfz15_0 := bf BK198 0; have hfz15_1 := bf BK198 1; have hcz16_0 := bc BK199 0; have hcz16_1 := bc BK199 1; have hfz16_0 := bf BK199 0; have hfz16_1 := bf BK199 1) | ((with_reducible refine gate_callee (f := 125) rfl ?_); refine gl 16 Tryz.func125 #[.agg #[.string a0_0, .string a0_1], .agg #[.string a1_0, .string a1_1]] ?_; (with_reducible refine (node_order.calls k a0_0 a0_1 a1_0 a1_1 t202 _ A7.out).mono ?_); rintro e w17 ⟨rfl, hb⟩; refine ⟨_, rfl, ?_⟩; have n0_ := bb BK198 hb; have n1_ := bb BK199 hb; have n2_ := bs HB hb; revert n0_ n1_ n2_; clear BK198 BK199 HB; intro BK198 BK199 HB; (try clear hb)))
   go_ret2
   exact ⟨by first | rfl | (simp [errW_none, errW_some] <;> rfl) | (simp [*, errW_none, errW_some] <;> rfl), ba HB⟩
  ·replace c6 := Bool.eq_false_iff.mpr c6
   subst c6
   replace H := jf H
   simp only [Option.some.injEq, Prod.mk.injEq] at H
   obtain ⟨rfl, rfl⟩ := H
   go_enter Tryz.func114, Tryz.ntmps114
   go_wp2_with (first | ((with_reducible refine gate_dst (N := 2) rfl ?_); refine box_event ?hg (N := 2) ?hd (cs := #[.string a0_0, .string a0_1]) (t := 24) ?hr ?_; (case hd => rfl); (case hg => rfl); (case hr => first | (go_simp; done) | (go_simp; rfl)); intro gb198 hg w18 hbox hb; have n0_ := bs HB hb; have n1_ := Aside0.mk (hbox); have n2_ := gz hg HB; have n3_ := gz hg HB; revert n0_ n1_ n2_ n3_; clear HB; intro HB BK198 GW198 GE198; clear hb hbox hg) | ((with_reducible refine gate_dst (N := 3) rfl ?_); refine box_event ?hg (N := 3) ?hd (cs := #[.string a1_0, .string a1_1]) (t := 24) ?hr ?_; (case hd => rfl); (case hg => rfl); (case hr => first | (go_simp; done) | (go_simp; rfl)); intro gb199 hg w19 hbox hb; have n0_ := bb BK198 hb; have n1_ := bs HB hb; have n2_ := Aside0.mk (hbox); have n3_ := gz hg HB; have n4_ := gz hg HB; have n5_ := Aside0.mk ((by rw [hg]; exact Nat.ne_of_lt (blk_lt (g := gb198) (o := .cells #[.string a0_0, .string a0_1] 24 (0, 0)) (bk BK198)) : gb198 ≠ gb199)); have n6_ := Aside0.mk ((by rw [hg]; exact Nat.ne_of_gt (blk_lt (g := gb198) (o := .cells #[.string a0_0, .string a0_1] 24 (0, 0)) (bk BK198)) : gb199 ≠ gb198)); revert n0_ n1_ n2_ n3_ n4_ n5_ n6_; clear BK198 HB; intro BK198 HB BK199 GW199 GE199 NB198_199 NB199_198; clear hb hbox hg; have hnb20 := NB198_199.out; have hnc20 := NB199_198.out; have hcz21_0 := bc BK198 0; have hcz21_1 := bc BK198 1; have hfz21_0 := bf BK198 0; have hfz21_1 := bf BK198 1) | ((with_reducible refine gate_callee (f := 76) rfl ?_); refine gl 7 Tryz.func76 #[.agg #[.string a0_0, .string a0_1]] ?_; (with_reducible refine (node_May.calls k a0_0 a0_1 true _ A3.out).mono ?_); rintro e w22 ⟨rfl, hb⟩; refine ⟨_, rfl, ?_⟩; have n0_ := bb BK198 hb; have n1_ := bb BK199 hb; have n2_ := bs HB hb; revert n0_ n1_ n2_; clear BK198 BK199 HB; intro BK198 BK199 HB; (try clear hb); have hcz23_0 := bc BK199 0; have hcz23_1 := bc BK199 1; have hfz23_0 := bf BK199 0; have hfz23_1 := bf BK199 1) | (go_at_call 76; (with_reducible refine (node_May.calls k a1_0 a1_1 false _ A5.out).mono ?_); rintro e w24 ⟨rfl, hb⟩; have n0_ := bb BK198 hb; have n1_ := bb BK199 hb; have n2_ := bs HB hb; revert n0_ n1_ n2_; clear BK198 BK199 HB; intro BK198 BK199 HB; (try clear hb)))
   go_ret2
   exact ⟨by first | rfl | (simp [errW_none, errW_some] <;> rfl) | (simp [*, errW_none, errW_some] <;> rfl), ba HB⟩
 ·replace c4 := Bool.eq_false_iff.mpr c4
  subst c4
  replace H := jf H
  simp only [Option.some.injEq, Prod.mk.injEq] at H
  obtain ⟨rfl, rfl⟩ := H
  go_enter Tryz.func114, Tryz.ntmps114
  go_wp2_with (first | ((with_reducible refine gate_dst (N := 2) rfl ?_); refine box_event ?hg (N := 2) ?hd (cs := #[.string a0_0, .string a0_1]) (t := 24) ?hr ?_; (case hd => rfl); (case hg => rfl); (case hr => first | (go_simp; done) | (go_simp; rfl)); intro gb198 hg w25 hbox hb; have n0_ := bs HB hb; have n1_ := Aside0.mk (hbox); have n2_ := gz hg HB; have n3_ := gz hg HB; revert n0_ n1_ n2_ n3_; clear HB; intro HB BK198 GW198 GE198; clear hb hbox hg) | ((with_reducible refine gate_dst (N := 3) rfl ?_); refine box_event ?hg (N := 3) ?hd (cs := #[.string a1_0, .string a1_1]) (t := 24) ?hr ?_; (case hd => rfl); (case hg => rfl); (case hr => first | (go_simp; done) | (go_simp; rfl)); intro gb199 hg w26 hbox hb; have n0_ := bb BK198 hb; have n1_ := bs HB hb; have n2_ := Aside0.mk (hbox); have n3_ := gz hg HB; have n4_ := gz hg HB; have n5_ := Aside0.mk ((by rw [hg]; exact Nat.ne_of_lt (blk_lt (g := gb198) (o := .cells #[.string a0_0, .string a0_1] 24 (0, 0)) (bk BK198)) : gb198 ≠ gb199)); have n6_ := Aside0.mk ((by rw [hg]; exact Nat.ne_of_gt (blk_lt (g := gb198) (o := .cells #[.string a0_0, .string a0_1] 24 (0, 0)) (bk BK198)) : gb199 ≠ gb198)); revert n0_ n1_ n2_ n3_ n4_ n5_ n6_; clear BK198 HB; intro BK198 HB BK199 GW199 GE199 NB198_199 NB199_198; clear hb hbox hg; have hnb27 := NB198_199.out; have hnc27 := NB199_198.out; have hcz28_0 := bc BK198 0; have hcz28_1 := bc BK198 1; have hfz28_0 := bf BK198 0; have hfz28_1 := bf BK198 1) | ((with_reducible refine gate_callee (f := 76) rfl ?_); refine gl 7 Tryz.func76 #[.agg #[.string a0_0, .string a0_1]] ?_; (with_reducible refine (node_May.calls k a0_0 a0_1 false _ A3.out).mono ?_); rintro e w29 ⟨rfl, hb⟩; refine ⟨_, rfl, ?_⟩; have n0_ := bb BK198 hb; have n1_ := bb BK199 hb; have n2_ := bs HB hb; revert n0_ n1_ n2_; clear BK198 BK199 HB; intro BK198 BK199 HB; (try clear hb)))
  go_ret2
  exact ⟨by first | rfl | (simp [errW_none, errW_some] <;> rfl) | (simp [*, errW_none, errW_some] <;> rfl), ba HB⟩
end Go.Proofs.YtjfcmkddeglghaaGreatDoor.G
end
section
namespace Go.Proofs.YtjfcmkddeglghaaGreatDoor.G
open Go.RowKit Go.Proofs.YtjfcmkddeglghaaGreatDoorW.PrintWords Go.Proofs.YtjfcmkddeglghaaGreatDoorW.PrintLast Go.Proofs.YtjfcmkddeglghaaGreatDoorW.PrintMore
attribute [local go_sem] max2_int min2_int max_two min_two max_three min_three max_four min_four
set_option linter.unusedVariables false
set_option linter.unusedSimpArgs false
def why_order.f (k : Nat) (a0_0 : ByteArray) (a0_1 : ByteArray) (a1_0 : ByteArray) (a1_1 : ByteArray) : Option (Int) := (node_Cmp.f k a0_0 a0_1 a1_0 a1_1).bind fun bt205 => (some bt205.1)
set_option maxHeartbeats 8000000 in
set_option maxRecDepth 100000 in
theorem why_order.calls (k : Nat) (a0_0 : ByteArray) (a0_1 : ByteArray) (a1_0 : ByteArray) (a1_1 : ByteArray) (r : Int) (w : World) (h : why_order.f k a0_0 a0_1 a1_0 a1_1 = some r) :
  Calls Tryz.prog 75 #[.agg #[.string a0_0, .string a0_1], .agg #[.string a1_0, .string a1_1]] w fun e w' => e = .returned (.int .i64 r) ∧ Below w.heap.size w w' := by
 have hu24 := Tryz.underlying24
 have HB := Aside0.mk (Below.refl w.heap.size w)
 have H : ((node_Cmp.f k a0_0 a0_1 a1_0 a1_1).bind fun bt205 => (some bt205.1)) = some r := h
 clear h
 obtain ⟨⟨t205, t206⟩, A3, H⟩ := bo H
 replace H : (some t205) = some r := H
 obtain rfl := Option.some.inj H
 go_enter Tryz.func75, Tryz.ntmps75
 go_wp2_with (first | ((with_reducible refine gate_dst (N := 2) rfl ?_); refine box_event ?hg (N := 2) ?hd (cs := #[.string a0_0, .string a0_1]) (t := 24) ?hr ?_; (case hd => rfl); (case hg => rfl); (case hr => first | (go_simp; done) | (go_simp; rfl)); intro gb203 hg w4 hbox hb; have n0_ := bs HB hb; have n1_ := Aside0.mk (hbox); have n2_ := gz hg HB; have n3_ := gz hg HB; revert n0_ n1_ n2_ n3_; clear HB; intro HB BK203 GW203 GE203; clear hb hbox hg) | ((with_reducible refine gate_dst (N := 3) rfl ?_); refine box_event ?hg (N := 3) ?hd (cs := #[.string a1_0, .string a1_1]) (t := 24) ?hr ?_; (case hd => rfl); (case hg => rfl); (case hr => first | (go_simp; done) | (go_simp; rfl)); intro gb204 hg w5 hbox hb; have n0_ := bb BK203 hb; have n1_ := bs HB hb; have n2_ := Aside0.mk (hbox); have n3_ := gz hg HB; have n4_ := gz hg HB; have n5_ := Aside0.mk ((by rw [hg]; exact Nat.ne_of_lt (blk_lt (g := gb203) (o := .cells #[.string a0_0, .string a0_1] 24 (0, 0)) (bk BK203)) : gb203 ≠ gb204)); have n6_ := Aside0.mk ((by rw [hg]; exact Nat.ne_of_gt (blk_lt (g := gb203) (o := .cells #[.string a0_0, .string a0_1] 24 (0, 0)) (bk BK203)) : gb204 ≠ gb203)); revert n0_ n1_ n2_ n3_ n4_ n5_ n6_; clear BK203 HB; intro BK203 HB BK204 GW204 GE204 NB203_204 NB204_203; clear hb hbox hg; have hnb6 := NB203_204.out; have hnc6 := NB204_203.out; have hcz7_0 := bc BK203 0; have hcz7_1 := bc BK203 1; have hfz7_0 := bf BK203 0; have hfz7_1 := bf BK203 1; have hcz8_0 := bc BK204 0; have hcz8_1 := bc BK204 1; have hfz8_0 := bf BK204 0; have hfz8_1 := bf BK204 1) | ((with_reducible refine gate_callee (f := 114) rfl ?_); refine gl 10 Tryz.func114 #[.agg #[.string a0_0, .string a0_1], .agg #[.string a1_0, .string a1_1]] ?_; (with_reducible refine (node_Cmp.calls k a0_0 a0_1 a1_0 a1_1 t205 t206 _ A3.out).mono ?_); rintro e w9 ⟨rfl, hb⟩; refine ⟨_, rfl, ?_⟩; have n0_ := bb BK203 hb; have n1_ := bb BK204 hb; have n2_ := bs HB hb; revert n0_ n1_ n2_; clear BK203 BK204 HB; intro BK203 BK204 HB; (try clear hb)))
 go_ret
 exact ⟨by first | rfl | (simp [errW_none, errW_some] <;> rfl) | (simp [*, errW_none, errW_some] <;> rfl), ba HB⟩
end Go.Proofs.YtjfcmkddeglghaaGreatDoor.G
end
section
namespace Go.Proofs.YtjfcmkddeglghaaGreatDoor.G
open Go.RowKit Gw Go.Proofs.YtjfcmkddeglghaaGreatDoorW.PrintWords Go.Proofs.YtjfcmkddeglghaaGreatDoorW.PrintLast Go.Proofs.YtjfcmkddeglghaaGreatDoorW.PrintMore
set_option linter.unusedVariables false
set_option linter.unusedSimpArgs false
theorem progMayN_ev (x : SNode) (h : okNode x = true) : Ev (fun k => node_May.f k x.f0 x.f1) (mayN x) := by
  obtain ⟨h1, h2⟩ := okNode_sz h
  have := node_May_ev _ _ h1 h2
  rw [ofL_self, ofL_self] at this
  exact this
theorem node_order_ev (x y : SNode) (hx : goodN x) (hy : goodN y) : Ev (fun k => node_order.f k x.f0 x.f1 y.f0 y.f1) (ndC x y) := by
  unfold node_order.f
  by_cases h : sameN x y = true
  · refine Ev.pos h (Ev.some_eq ?_)
    rw [(sameN_iff x y).1 h]
    exact (ndC_total.self y).symm
  · refine Ev.neg h ?_
    have mx := hx.2
    have my := hy.2
    have ox := hx.1
    have oy := hy.1
    unfold mayN ndMay at mx my
    unfold okNode at ox oy
    simp only [Bool.and_eq_true, decide_eq_true_eq] at mx my ox oy
    have e1 : version_Cmp.f x.f1 y.f1 = some (verCmp x.f1.data.toList y.f1.data.toList, 0) := by
      unfold version_Cmp.f
      rw [if_pos ⟨ox.2, oy.2⟩]
      have a1 : verMay x.f1.data.toList = true := mx.2
      have a2 : verMay y.f1.data.toList = true := my.2
      rw [a1, a2]
      rfl
    have e2 := octet_Cmp_ev x.f0.data.toList y.f0.data.toList
    rw [ofL_self, ofL_self] at e2
    refine Ev.bindc e1 (Ev.bindc e2 (Ev.bind (cmp_Or_ev _ (by simp)) (Ev.some_eq ?_)))
    have h0 : ∀ z : Int, or3 z 0 = z := fun z => by unfold or3; split <;> omega
    simp only [orL, h0]
    rfl
theorem node_Cmp_ev (x y : SNode) (hx : goodN x) (hy : goodN y) : Ev (fun k => node_Cmp.f k x.f0 x.f1 y.f0 y.f1) (ndC x y, 0) := by
  unfold node_Cmp.f
  refine Ev.bind (progMayN_ev x hx.1) (Ev.pos hx.2 (Ev.bind (progMayN_ev y hy.1) (Ev.pos hy.2 (Ev.bind (node_order_ev x y hx hy) (Ev.some_ _)))))
theorem why_order_ev (x y : SNode) (hx : goodN x) (hy : goodN y) : Ev (fun k => why_order.f k x.f0 x.f1 y.f0 y.f1) (ndC x y) := by
  unfold why_order.f
  exact Ev.bind (node_Cmp_ev x y hx hy) (Ev.some_ _)
theorem why_order_calls (x y : SNode) (hx : goodN x) (hy : goodN y) (w : World) :
    Calls Tryz.prog 75 #[.agg #[.string x.f0, .string x.f1], .agg #[.string y.f0, .string y.f1]] w fun e w' => e = .returned (.int .i64 (ndC x y)) ∧ Below w.heap.size w w' := by
  obtain ⟨k, hk⟩ := (why_order_ev x y hx hy).get
  exact why_order.calls k x.f0 x.f1 y.f0 y.f1 _ w hk
end Go.Proofs.YtjfcmkddeglghaaGreatDoor.G
end
section
namespace Go.Proofs
open Go.Shelf
def Tryz.sfDeep_ren : Go.Shelf.Ren := ⟨fun | 6 => 73 | 15 => 113 | 14 => 112 | 28 => 148 | 29 => 149 | 20 => 140 | 21 => 141 | 22 => 142 | 23 => 143 | 24 => 144 | 25 => 145 | 26 => 146 | 27 => 147 | 46 => 166 | 47 => 167 | 48 => 168 | 49 => 169 | 50 => 170 | 57 => 191 | n => n, fun | 22 => 27 | 24 => 46 | 25 => 110 | 3 => 3 | 39 => 142 | 0 => 0 | 53 => 179 | 55 => 181 | 4 => 4 | 46 => 173 | 45 => 172 | 50 => 111 | 5 => 5 | 9 => 9 | 66 => 192 | 70 => 196 | 76 => 213 | 77 => 214 | n => n, fun | n => n⟩
theorem Tryz.sfDeep : Go.Proofs.SlLaysF0.n6 Tryz.prog Tryz.sfDeep_ren := {
  mixed := by kernel_rfl
  f6 := ⟨Tryz.f73.name, by decide, Tryz.func73.trans (congrArg some (by kernel_rfl))⟩
  f14 := ⟨Tryz.f112.name, by decide, Tryz.func112.trans (congrArg some (by kernel_rfl))⟩
  f15 := Tryz.func113.trans (congrArg some (by kernel_rfl))
  f20 := ⟨Tryz.f140.name, by decide, Tryz.func140.trans (congrArg some (by kernel_rfl))⟩
  f21 := ⟨Tryz.f141.name, by decide, Tryz.func141.trans (congrArg some (by kernel_rfl))⟩
  f22 := ⟨Tryz.f142.name, by decide, Tryz.func142.trans (congrArg some (by kernel_rfl))⟩
  f23 := ⟨Tryz.f143.name, by decide, Tryz.func143.trans (congrArg some (by kernel_rfl))⟩
  f24 := ⟨Tryz.f144.name, by decide, Tryz.func144.trans (congrArg some (by kernel_rfl))⟩
  f25 := ⟨Tryz.f145.name, by decide, Tryz.func145.trans (congrArg some (by kernel_rfl))⟩
  f26 := ⟨Tryz.f146.name, by decide, Tryz.func146.trans (congrArg some (by kernel_rfl))⟩
  f27 := ⟨Tryz.f147.name, by decide, Tryz.func147.trans (congrArg some (by kernel_rfl))⟩
  f28 := Tryz.func148.trans (congrArg some (by kernel_rfl))
  f29 := Tryz.func149.trans (congrArg some (by kernel_rfl))
  f46 := ⟨Tryz.f166.name, by decide, Tryz.func166.trans (congrArg some (by kernel_rfl))⟩
  f47 := Tryz.func167.trans (congrArg some (by kernel_rfl))
  f48 := Tryz.func168.trans (congrArg some (by kernel_rfl))
  f49 := ⟨Tryz.f169.name, by decide, Tryz.func169.trans (congrArg some (by kernel_rfl))⟩
  f50 := ⟨Tryz.f170.name, by decide, Tryz.func170.trans (congrArg some (by kernel_rfl))⟩
  f57 := ⟨Tryz.f191.name, by decide, Tryz.func191.trans (congrArg some (by kernel_rfl))⟩
  t0 := Tryz.underlying0
  a0 := Tryz.isAgg0
  z0 := Tryz.sizeOf0
  v0 := Tryz.zeroValue0
  t3 := Tryz.underlying3
  a3 := Tryz.isAgg3
  z3 := Tryz.sizeOf3
  v3 := Tryz.zeroValue3
  t4 := Tryz.underlying4
  a4 := Tryz.isAgg4
  z4 := Tryz.sizeOf4
  v4 := Tryz.zeroValue4
  t5 := Tryz.underlying5
  a5 := Tryz.isAgg5
  z5 := Tryz.sizeOf5
  v5 := Tryz.zeroValue5
  t9 := Tryz.underlying9
  a9 := Tryz.isAgg9
  z9 := Tryz.sizeOf9
  v9 := Tryz.zeroValue9
  t22 := Tryz.underlying27
  a22 := Tryz.isAgg27
  z22 := Tryz.sizeOf27
  v22 := Tryz.zeroValue27
  t25 := Tryz.underlying110
  a25 := Tryz.isAgg110
  z25 := Tryz.sizeOf110
  v25 := Tryz.zeroValue110
  t39 := Tryz.underlying142
  a39 := Tryz.isAgg142
  z39 := Tryz.sizeOf142
  v39 := Tryz.zeroValue142
  t45 := Tryz.underlying172
  a45 := Tryz.isAgg172
  z45 := Tryz.sizeOf172
  v45 := Tryz.zeroValue172
  t46 := Tryz.underlying173
  a46 := Tryz.isAgg173
  z46 := Tryz.sizeOf173
  v46 := Tryz.zeroValue173
  t50 := Tryz.underlying111
  a50 := Tryz.isAgg111
  z50 := Tryz.sizeOf111
  v50 := Tryz.zeroValue111
  t53 := Tryz.underlying179
  a53 := Tryz.isAgg179
  z53 := Tryz.sizeOf179
  v53 := Tryz.zeroValue179
  t55 := Tryz.underlying181
  a55 := Tryz.isAgg181
  z55 := Tryz.sizeOf181
  v55 := Tryz.zeroValue181
  t66 := Tryz.underlying192
  a66 := Tryz.isAgg192
  z66 := Tryz.sizeOf192
  v66 := Tryz.zeroValue192
  t70 := Tryz.underlying196
  a70 := Tryz.isAgg196
  z70 := Tryz.sizeOf196
  v70 := Tryz.zeroValue196
  t76 := Tryz.underlying213
  a76 := Tryz.isAgg213
  z76 := Tryz.sizeOf213
  v76 := Tryz.zeroValue213
  t77 := Tryz.underlying214
  a77 := Tryz.isAgg214
  z77 := Tryz.sizeOf214
  v77 := Tryz.zeroValue214 }
end Go.Proofs
end
section
namespace Go.Proofs.YtjfcmkddeglghaaGreatDoor.G
open Go.RowKit Gw Go.Proofs.YtjfcmkddeglghaaGreatDoorW.PrintWords Go.Proofs.YtjfcmkddeglghaaGreatDoorW.PrintLast Go.Proofs.YtjfcmkddeglghaaGreatDoorW.PrintMore
open Go.Sort (PermIn SortedIn SWO HoldsK)
set_option linter.unusedVariables false
set_option linter.unusedSimpArgs false
set_option maxHeartbeats 1000000 in
theorem depths1_calls (x y : SDeep) (hx : goodN x.f0) (hy : goodN y.f0) (W : World) :
    Calls Tryz.prog 74 #[.agg #[.string x.f0.f0, .string x.f0.f1, .int .i64 x.f1], .agg #[.string y.f0.f0, .string y.f0.f1, .int .i64 y.f1]] W fun e w' => e = .returned (.int .i64 (ndC x.f0 y.f0)) ∧ Below W.heap.size W w' := by
  have hc := fun W' => why_order_calls x.f0 y.f0 hx hy W'
  have HC := Aside0.mk hc
  clear hc hx hy
  go_enter Tryz.func74, Tryz.ntmps74
  go_wp2_with fail
  refine (HC.out _).mono ?_
  rintro e w' ⟨rfl, hb⟩
  have HB := Aside0.mk (below_then (((Below.refl W.heap.size W).alloc (Nat.le_refl _) _).alloc (by simp) _) (by simp; omega) hb)
  clear hb
  go_wp2
  go_ret
  exact ⟨rfl, HB.out⟩
abbrev GDeep := {x : SDeep // goodN x.f0}
theorem good_a : goodN ⟨ofL [97], ofL [118, 49, 46, 48, 46, 48]⟩ := by
  refine ⟨?_, ?_⟩ <;> decide +kernel
instance : Inhabited GDeep := ⟨⟨⟨⟨ofL [97], ofL [118, 49, 46, 48, 46, 48]⟩, 0⟩, good_a⟩⟩
def cfD (x y : GDeep) : Int := ndC x.1.f0 y.1.f0
theorem swo_of {β : Type} {p : SNode → Prop} (f : β → SNode) (hf : ∀ b, goodN (f b)) : SWO (ltOf fun x y => ndC (f x) (f y)) where
  irrefl x := by unfold ltOf; exact decide_eq_false (ndC_total.irrefl _)
  trans x y z h1 h2 := by
    unfold ltOf at *
    simp only [decide_eq_true_eq] at *
    exact ndC_total.trans _ _ _ (hf x) (hf y) (hf z) h1 h2
  ntrans x y z h1 h2 := by
    unfold ltOf at *
    simp only [decide_eq_false_iff_not] at *
    intro h3
    rcases ndC_total.lt_or (f x) (f y) (hf x) (hf y) with h | h | h
    · exact h1 h
    · rw [h] at h3; exact h2 h3
    · exact h2 (ndC_total.trans _ _ _ (hf y) (hf x) (hf z) h h3)
theorem lays_of {β : Type} [Inhabited β] {P : Program} {g : Nat} {enc : β → List Value} {k : Nat} {cf : β → β → Int} (h : ∀ x y W, Calls P g #[.agg (enc x).toArray, .agg (enc y).toArray] W fun e w' => e = .returned (.int .i64 (cf x y)) ∧ Below W.heap.size W w') (blk off size : Nat) (w : World) :
    CmpLays P g #[] enc k cf blk off size w := by
  intro m os dk hs x y
  have h1 := (h x y (sortWorldK enc k w blk off m dk os)).and_drawn
  refine h1.mono ?_
  rintro e w' ⟨⟨rfl, hb⟩, hd⟩
  exact ⟨rfl, grow_of_below hb (hd (by intro h; cases h))⟩
def encD (b : GDeep) : List Value := [.string b.1.f0.f0, .string b.1.f0.f1, .int .i64 b.1.f1]
theorem swoD : SWO (ltOf cfD) := swo_of (p := goodN) (fun b : GDeep => b.1.f0) (fun b => b.2)
theorem laysD (blk off size : Nat) (w : World) : CmpLays Tryz.prog 74 #[] encD 3 cfD blk off size w :=
  lays_of (enc := encD) (cf := cfD) (fun x y W => depths1_calls x.1 y.1 x.2 y.2 W) blk off size w
theorem sortDeep_calls (g cap : Nat) (ys : Array GDeep) (w : World) (hH : HoldsK encD 3 w g 0 ys) (hlt : g < w.heap.size) (hsz : ys.size < 4611686018427387904) :
    Calls Tryz.prog 73 #[.slice (some ⟨g, 0, none⟩) ys.size cap, .func (.func 74) #[] #[]] w fun e w' => e = .returned (.tuple #[]) ∧ ∃ D n os, PermIn 0 ys.size ys D ∧ SortedIn (ltOf cfD) 0 ys.size D ∧ w' = sortWorldK encD 3 w g 0 n D os := by
  have eg : ∀ args w, (callFunc 74 args).run Tryz.prog w = .ok (.enter 74 args) w := enters_of Tryz.func74 (by kernel_rfl) rfl
  have hk : ∀ x, (encD x).length = 3 := fun _ => rfl
  have h1 : ∀ x, ∀ v ∈ encD x, v.oneCell' = true := by
    intro x v hv
    unfold encD at hv
    simp at hv
    rcases hv with rfl | rfl | rfl <;> rfl
  have hcon := AnyQ.slices_SortFunc Tryz.sfDeep 3 Tryz.isAgg46 Tryz.sizeOf46 encD hk h1 cfD swoD 74 #[] g 0 cap ys w eg (laysD g 0 ys.size w) hH hlt hsz
  exact hcon
theorem R_some {α : Type} {d : Kd α} {e : Nat} {w : World} {base : Nat} {ok : Nat → Prop} {v : Value} {xs : List α} (h : d.R e w base ok v xs) (hne : xs ≠ []) : ∃ g cap, v = .slice (some ⟨g, 0, none⟩) xs.length cap := by
  obtain ⟨_, inner, ⟨_, ho⟩, _⟩ := h
  rcases ho with ⟨_, hn⟩ | ⟨g, cap, _, hv, _⟩
  · exact absurd (List.eq_nil_of_length_eq_zero hn) hne
  · exact ⟨g, cap, hv⟩
theorem sorted_fin {β : Type} [Inhabited β] (f : β → SNode) (hf : ∀ b, goodN (f b)) (d D : Array β) (hp : PermIn 0 d.size d D) (hs : SortedIn (ltOf fun x y => ndC (f x) (f y)) 0 d.size D) (hn : (d.toList.map f).Nodup) :
    D.size = d.size ∧ D.toList.Perm d.toList ∧ Sorted ndC (D.toList.map f) := by
  obtain ⟨h1, _, h3⟩ := hp
  have hperm : D.toList.Perm d.toList := by
    have e1 : D.extract 0 d.size = D := by rw [← h1]; simp
    have e2 : d.extract 0 d.size = d := by simp
    rw [e1, e2] at h3
    exact h3
  refine ⟨h1, hperm, ?_⟩
  have hnd : (D.toList.map f).Nodup := (hperm.map f).nodup_iff.2 hn
  unfold List.Nodup at hnd
  have hnd' := List.pairwise_iff_getElem.1 hnd
  unfold Sorted
  refine List.pairwise_iff_getElem.2 (fun i j hi hj hij => ?_)
  have hi' : i < D.size := by simpa using hi
  have hj' : j < D.size := by simpa using hj
  have h4 := hs i j (Nat.zero_le _) hij (by omega)
  rw [getElem!_pos D i hi', getElem!_pos D j hj'] at h4
  unfold ltOf at h4
  have h5 := of_decide_eq_false h4
  have h6 := hnd' i j hi hj hij
  simp only [List.getElem_map, Array.getElem_toList] at h6 ⊢
  rcases ndC_total.lt_or (f D[i]) (f D[j]) (hf _) (hf _) with h | h | h
  · exact h
  · exact absurd h h6
  · exact absurd h h5
structure RSt (w : World) (r : DMap) (B rb : Nat) (seen : Array Nat) (got : List SDeep) (v5 : Value) (wx : World) : Prop where
  it : wx.heap[rb]? = some (.mapIter (some B) r.length seen r.length)
  m : MapIs wx B r
  o : Kd.R k46 46 wx w.heap.size (fun k => k ≠ rb ∧ k ≠ B) v5 got
  b : Below w.heap.size w wx
  ge : w.heap.size ≤ rb
section
variable {w wx w1 : World} {r : DMap} {B rb i : Nat} {seen : Array Nat} {got : List SDeep} {v5 v1 : Value} {p : SDeep}
theorem RSt.lts (h : RSt w r B rb seen got v5 wx) : rb < wx.heap.size ∧ B < wx.heap.size := ⟨(Array.getElem?_eq_some_iff.1 h.it).1, (Array.getElem?_eq_some_iff.1 (show wx.heap[B]? = _ from h.m)).1⟩
theorem RSt.calm (h : RSt w r B rb seen got v5 wx) (hb : Below wx.heap.size wx w1) : RSt w r B rb seen got v5 w1 :=
  ⟨(hb.block _ h.lts.1).trans h.it, h.m.below hb, Kd.R_below h.o hb, below_then h.b h.b.size hb, h.ge⟩
theorem RSt.ne (h : RSt w r B rb seen got v5 wx) : B ≠ rb := by
  have h1 : wx.heap[B]? = some (.map (ents r).toArray r.length) := h.m
  have h2 := h.it
  rintro rfl
  rw [h1] at h2
  cases h2
theorem RSt.next (h : RSt w r B rb seen got v5 wx) (hs : w1.heap[rb]? = some (.mapIter (some B) r.length (seen.push i) r.length)) (ho : ∀ k : Nat, k ≠ rb → w1.heap[k]? = wx.heap[k]?) (hb : Below rb wx w1) : RSt w r B rb (seen.push i) got v5 w1 :=
  ⟨hs, (ho B h.ne).trans h.m, Kd.R_move h.o (fun k hk => ho k hk.1), h.b.trans (hb.mono h.ge), h.ge⟩
theorem RSt.app (h : RSt w r B rb seen got v5 wx) (ho : Kd.R k46 46 w1 w.heap.size (fun k => k ≠ rb ∧ k ≠ B) v1 (got ++ [p])) (hb : Below w.heap.size w w1) (hg : wx.grownBy w1 v5.ownBlock) : RSt w r B rb seen (got ++ [p]) v1 w1 :=
  ⟨(hg.block _ h.lts.1 (fun e => (h.o.1 rb e.symm).1 rfl)).trans h.it, (hg.block _ h.lts.2 (fun e => (h.o.1 B e.symm).2 rfl)).trans h.m, ho, hb, h.ge⟩
end
def DpPost (ds : List SDeep) (z : Int) (w : World) (e : Ending) (w' : World) : Prop := ∃ v0_ : Value, e = .returned (.tuple #[v0_, .int .i64 z]) ∧ Kd.R k46 46 w' w.heap.size (fun _ => True) v0_ ds ∧ Below w.heap.size w w'
set_option maxHeartbeats 1000000 in
set_option maxRecDepth 1000000 in
theorem why_Depths_bad (A0 : Option Addr) (c0 : Nat) (l : List SNeed) (w : World) (hr0 : Kd.C k49 w A0 l.length l) (hc0 : l.length ≤ c0) (hok : ∀ x ∈ l, okNeed x = true) (hb : l.any badNeed = true) :
    Calls Tryz.prog 17 #[.slice A0 l.length c0] w (DpPost [] 1 w) := by
  have hc : Calls Tryz.prog 71 #[.slice A0 l.length c0] w fun e w' => e = .returned (.int .i64 1) ∧ Below w.heap.size w w' := lack_Check.calls A0 c0 l 1 w hr0 hc0 (by unfold lack_Check.f; rw [if_pos (List.all_eq_true.2 hok), if_pos hb])
  have HC := Aside0.mk hc
  clear hc hr0 hc0 hok hb
  go_enter Tryz.func17, Tryz.ntmps17
  go_wp2_with fail
  refine HC.out.mono ?_
  rintro e w1 ⟨rfl, hb1⟩
  have HB := Aside0.mk hb1
  clear hb1
  go_wp2
  go_ret2
  exact ⟨_, rfl, Kd.R_nil _ _ _ _ _, HB.out⟩
set_option maxHeartbeats 1000000 in
set_option maxRecDepth 1000000 in
theorem why_Depths_ok (A0 : Option Addr) (c0 : Nat) (l : List SNeed) (r : DMap) (w : World) (hr0 : Kd.C k49 w A0 l.length l) (hc0 : l.length ≤ c0) (hl1000 : l.length ≤ 1000) (hok : ∀ x ∈ l, okNeed x = true) (hb : l.any badNeed = false)
    (hr : outerD l (l.length + 2) 1 [zN] [] = some r) (hn : (r.map Prod.fst).Nodup) (hgood : ∀ y ∈ r.map Prod.fst, goodN y) (hrl : r.length ≤ 1000) :
    Calls Tryz.prog 17 #[.slice A0 l.length c0] w (DpPost (depsOf r) 0 w) := by
  have hc : Calls Tryz.prog 71 #[.slice A0 l.length c0] w fun e w' => e = .returned (.int .i64 0) ∧ Below w.heap.size w w' := lack_Check.calls A0 c0 l 0 w hr0 hc0 (by unfold lack_Check.f; rw [if_pos (List.all_eq_true.2 hok), if_neg (by rw [hb]; simp)])
  have hd : ∀ w1, Below w.heap.size w w1 → Calls Tryz.prog 72 #[.slice A0 l.length c0] w1 fun e w' => e = .returned (.map (some w1.heap.size)) ∧ MapIs w' w1.heap.size r ∧ Below w1.heap.size w1 w' := fun w1 hb1 => why_depths_calls A0 c0 l r w1 (by omega) (Kd.C_below hr0 hb1) hr
  have HC := Aside0.mk hc
  have HD := Aside0.mk hd
  have HN := Aside0.mk hn
  have HG := Aside0.mk hgood
  clear hc hd hn hgood hr0 hc0 hok hb hr
  go_enter Tryz.func17, Tryz.ntmps17
  go_wp2_with fail
  refine HC.out.mono ?_
  rintro e w1 ⟨rfl, hb1⟩
  have HB1 := Aside0.mk hb1
  clear hb1
  go_wp2_with fail
  refine (HD.out w1 HB1.out).mono ?_
  rintro e w2 ⟨rfl, hm2, hb2⟩
  have HM2 := Aside0.mk hm2
  have HB2 := Aside0.mk (below_then HB1.out HB1.out.size hb2)
  have hrange := run_range_map (P := Tryz.prog) w2 106 24 3 w1.heap.size (ents r).toArray r.length undMap hm2
  clear hm2 hb2
  go_wp2
  have HS0 : Aside0 (RSt w r w1.heap.size w2.heap.size #[] [] (.slice none 0 0) (w2.alloc (.mapIter (some w1.heap.size) r.length #[] r.length))) := ⟨⟨heap_alloc_new _ _, HM2.out.below ((Below.refl _ _).alloc (Nat.le_refl _) _), Kd.R_nil _ _ _ _ _, HB2.out.alloc HB2.out.size _, HB2.out.size⟩⟩
  go_loopg [5] r.length (fun gg v5 wx => ∃ seen : Array Nat, seen.size + gg ≤ r.length ∧ Aside0 (lf r seen ≤ gg) ∧ Aside0 (Came r seen) ∧ Aside0 (RSt w r w1.heap.size w2.heap.size seen (gotD r seen) v5 wx))
  case atStart => exact ⟨#[], by simp, ⟨lf_start r⟩, ⟨⟨by simp, by simp⟩⟩, HS0⟩
  case round =>
    obtain ⟨seen, hsz, HL, HCM, HS⟩ := hrel
    rcases next_nodes wr w2.heap.size w1.heap.size r seen HS.out.it HS.out.m with ⟨h0, hrun⟩ | ⟨i, hi, w3, hsn, hlt, hit, hoth, hbel, hrun, hen⟩
    · have H0 := Aside0.mk h0
      clear h0
      by_cases hg0 : gotD r seen = []
      · obtain ⟨A5, c5, hv⟩ := Kd.R_slice HS.out.o
        have hdep : depsOf r = [] := (deps_unique HN.out HG.out [] List.Pairwise.nil (fun q => by rw [← HCM.out.mem H0.out q, hg0])).symm
        rw [hg0] at hv
        subst hv
        have HBE := Aside0.mk HS.out.b
        have HDEP := Aside0.mk hdep
        have hnone := AnyF.slices_SortFunc_none Tryz.sfDeep A5 c5 (.func (.func 74) #[] #[]) wr
        change Calls Tryz.prog 73 _ _ _ at hnone
        have HNONE := Aside0.mk hnone
        have HOE := Aside0.mk HS.out.o
        have HGE := Aside0.mk hg0
        clear hnone hdep hg0
        go_wp2_with fail
        refine HNONE.out.mono ?_
        rintro e w4 ⟨rfl, rfl⟩
        go_wp2
        go_ret2
        refine ⟨_, rfl, ?_, HBE.out⟩
        rw [HDEP.out]
        have := HOE.out
        rw [HGE.out] at this
        exact Kd.R_mono this (fun _ _ => trivial)
      · obtain ⟨g, cap, hv⟩ := R_some HS.out.o hg0
        subst hv
        have hgd : ∀ x ∈ gotD r seen, goodN x.f0 := fun x hx => HG.out _ (List.mem_map.2 ⟨_, HCM.out.sub x hx, rfl⟩)
        obtain ⟨ys, hys⟩ : ∃ ys : Array GDeep, ys.toList.map Subtype.val = gotD r seen := ⟨((gotD r seen).attachWith _ hgd).toArray, by simp⟩
        have hR := HS.out.o
        rw [← hys] at hR
        obtain ⟨hn5, hge, hlt, hH⟩ := R_holds flatD ys hR
        have hlen : ys.size ≤ r.length := by
          have h1 := congrArg List.length hys
          rw [gotD_length] at h1
          simp only [List.length_map, Array.length_toList] at h1
          omega
        have hlen' : (gotD r seen).length = ys.size := by rw [← hys]; simp
        have hcon := sortDeep_calls g cap ys wr hH hlt (by omega)
        rw [show (Value.slice (some ⟨g, 0, none⟩) ys.size cap) = (Value.slice (some ⟨g, 0, none⟩) (gotD r seen).length cap) from by rw [hlen']] at hcon
        have HCON := Aside0.mk hcon
        have HBE := Aside0.mk HS.out.b
        have HRE := Aside0.mk hR
        have HYS := Aside0.mk hys
        have HGE := Aside0.mk hge
        clear hcon hR hys hge hlt hH hlen hlen' hgd hn5 hg0
        go_wp2_with fail
        refine HCON.out.mono ?_
        rintro e w4 ⟨rfl, D, n, os, hp, hs, hw⟩
        have hnd : (ys.toList.map fun b : GDeep => b.1.f0).Nodup := by
          have h1 := HCM.out.nodup HN.out
          rw [← HYS.out, List.map_map] at h1
          exact h1
        obtain ⟨f1, f2, f3⟩ := sorted_fin (fun b : GDeep => b.1.f0) (fun b => b.2) ys D hp hs hnd
        have hfin : D.toList.map Subtype.val = depsOf r := by
          refine deps_unique HN.out HG.out _ (by rw [List.map_map]; exact f3) (fun q => ?_)
          rw [← HCM.out.mem H0.out q, ← HYS.out]
          exact (f2.map Subtype.val).mem_iff
        have hro := R_sorted flatD (f := Subtype.val) D n os HRE.out (by rw [f1]; simp)
        have hgr := grownBy_sortedK (w := wr) (g := g) encD 3 n D os
        rw [hfin] at hro
        have hro4 : Kd.R k46 46 w4 w.heap.size (fun k => k ≠ w2.heap.size ∧ k ≠ w1.heap.size) (.slice (some ⟨g, 0, none⟩) (gotD r seen).length cap) (depsOf r) := by rw [hw, ← HYS.out]; exact hro
        rw [← hw] at hgr
        have HRO := Aside0.mk hro4
        have HB4 : Aside0 (Below w.heap.size w w4) := ⟨HBE.out.trans ⟨hgr.os, hgr.tape, hgr.output, hgr.size, fun k hk => hgr.block k (by have := HBE.out.size; omega) (fun e => by injection e with e; have := HGE.out; omega)⟩⟩
        clear hp hs hw hnd f1 f2 f3 hfin hro hgr hro4
        go_wp2
        go_ret2
        exact ⟨_, rfl, Kd.R_mono HRO.out (fun _ _ => trivial), HB4.out⟩
    · cases gk with
      | zero => exact absurd HL.out (by omega)
      | succ gg =>
        have HL3 : Aside0 (lf r (seen.push i) ≤ gg) := ⟨by have := HL.out; omega⟩
        have HS3 := Aside0.mk (HS.out.next hit hoth hbel)
        have HCM3 := Aside0.mk (HCM.out.push hi hsn)
        have HGP := Aside0.mk (gotD_push r seen i hi)
        clear hsn hlt hit hoth hbel
        have hgl := gotD_length r seen
        have HGL : Aside0 ((gotD r seen).length ≤ 1000) := ⟨by omega⟩
        clear hgl
        generalize r[i] = q at hrun hen HGP
        have HS4 := Aside0.mk (HS3.out.calm ((Below.refl w3.heap.size w3).alloc (Nat.le_refl _) (.cells #[.string q.1.f0, .string q.1.f1] 24)))
        go_wp2_with (first | ((with_reducible refine gate_builtin (b := .append) (xs := #[.tmp 21, .tmp 25]) rfl ?_); at_builtin; refine Kd.R_append k46 (w0 := w) w.heap.size rfl (.tmp 21) (.tmp 25) 27 46 (.agg #[(.string ⟨#[]⟩), (.string ⟨#[]⟩), .int .i64 0]) 40 rfl Tryz.underlying27 info46 rfl (by decide) (by omega) u5 (gotD r seen) ⟨q.1, q.2⟩ [.string q.1.f0, .string q.1.f1, .int .i64 q.2] (fun k => k ≠ w2.heap.size ∧ k ≠ w1.heap.size) (fun _ => False) rfl (by rw [World.size_alloc]; rfl) ?aP (fun _ hk => hk.elim) ?aF ?aO ?aB ?aS ?aL ?_; (case aP => exact k46_mkM _ _ _ ⟨q.1, q.2⟩); (case aF => exact (fun k hk => by have := HS4.out.lts; omega)); (case aO => exact HS4.out.o); (case aB => exact HS4.out.b); (case aS => exact HS4.out.b.size); (case aL => have := HGL.out; omega); intro v1 w5 ho hb hg hat; have HO5 := Aside0.mk (HS4.out.app ho hb hg); clear ho hb hg hat))
        go_roundg gg
        case measure => omega
        case rel => exact ⟨seen.push i, by simp only [Array.size_push]; omega, HL3, HCM3, ⟨by rw [HGP.out]; exact HO5.out⟩⟩
def why_Depths.f (l : List SNeed) : Option (List SDeep × Int) :=
  if (l.all okNeed && decide (l.length ≤ 1000)) = true then (if l.any badNeed then some ([], 1) else (outerD l (l.length + 2) 1 [zN] []).map fun r => (depsOf r, 0)) else none
theorem keys_len {l : List SNeed} {lv : List (List SNode)} {r : DMap} (t : Gw.Told ndC goodN (prs l) zN lv r) : r.length ≤ l.length := by
  have h1 := nodup_len (r.map Prod.fst) ((prs l).map Prod.snd) t.lev.nodup (fun y hy => by
    obtain ⟨⟨a, v⟩, hq, rfl⟩ := List.mem_map.1 hy
    obtain ⟨i, L, h1, h2, _⟩ := (t.lev.pair a v).1 hq
    cases i with
    | zero =>
      obtain ⟨x, hx, _, e⟩ := t.lev.from0 L h1 a h2
      exact List.mem_map.2 ⟨x, hx, e⟩
    | succ i =>
      have hlt : i + 1 < lv.length := (List.getElem?_eq_some_iff.1 h1).1
      obtain ⟨x, hx, _, e⟩ := t.lev.fromS i (lv[i]'(by omega)) L (List.getElem?_eq_getElem (by omega)) h1 a h2
      exact List.mem_map.2 ⟨x, hx, e⟩)
  simpa [prs] using h1
theorem why_Depths.calls (A0 : Option Addr) (c0 : Nat) (l0 : List SNeed) (r0 : List SDeep) (r1 : Int) (w : World) (hr0 : Kd.C k49 w A0 l0.length l0) (hc0 : l0.length ≤ c0) (h : why_Depths.f l0 = some (r0, r1)) :
    Calls Tryz.prog 17 #[.slice A0 l0.length c0] w fun e w' => ∃ v0_ : Value, e = .returned (.tuple #[v0_, .int .i64 r1]) ∧ Kd.R k46 46 w' w.heap.size (fun _ => True) v0_ r0 ∧ Below w.heap.size w w' := by
  unfold why_Depths.f at h
  split at h
  case isFalse => cases h
  rename_i hc
  simp only [Bool.and_eq_true, decide_eq_true_eq] at hc
  have hok : ∀ x ∈ l0, okNeed x = true := List.all_eq_true.1 hc.1
  cases hb : l0.any badNeed with
  | true =>
    rw [if_pos hb] at h
    have h := Option.some.inj h
    injection h with e1 e2
    subst e1 e2
    exact why_Depths_bad A0 c0 l0 w hr0 hc0 hok hb
  | false =>
    rw [if_neg (by rw [hb]; simp)] at h
    obtain ⟨r, hr, h⟩ := Option.map_eq_some_iff.1 h
    injection h with e1 e2
    subst e1 e2
    obtain ⟨lv, r', h1, h2, t⟩ := told_needs hok hb
    rw [hr] at h1
    have h1 := Option.some.inj h1
    subst h1
    refine why_Depths_ok A0 c0 l0 r w hr0 hc0 hc.2 hok hb hr t.lev.nodup (fun y hy => ?_) (by have := keys_len t; omega)
    obtain ⟨⟨a, v⟩, hq, rfl⟩ := List.mem_map.1 hy
    exact t.good ((t.mem a v).1 hq).1
end Go.Proofs.YtjfcmkddeglghaaGreatDoor.G
end
section
namespace Go.Proofs.YtjfcmkddeglghaaGreatDoor.G
open Go.RowKit Gw Go.Proofs.YtjfcmkddeglghaaGreatDoorW.PrintWords Go.Proofs.YtjfcmkddeglghaaGreatDoorW.PrintLast Go.Proofs.YtjfcmkddeglghaaGreatDoorW.PrintMore
set_option linter.unusedVariables false
set_option linter.unusedSimpArgs false
def minF (a : SNode) (t : List SNode) : SNode := t.foldl (fun m x => if ndC x m < 0 then x else m) a
structure MSt (w : World) (m : SNode) (wx : World) : Prop where
  z : wx.heap[w.heap.size]? = some (.cells #[.string ⟨#[]⟩, .string ⟨#[]⟩] 24 (0, 0))
  m : wx.heap[w.heap.size + 1]? = some (.cells #[.string m.f0, .string m.f1] 24 (0, 0))
  b : Below w.heap.size w wx
theorem MSt.calm {w wx w1 : World} {m : SNode} (h : MSt w m wx) (hb : Below wx.heap.size wx w1) : MSt w m w1 :=
  ⟨(hb.block _ (Array.getElem?_eq_some_iff.1 h.z).1).trans h.z, (hb.block _ (Array.getElem?_eq_some_iff.1 h.m).1).trans h.m, below_then h.b h.b.size hb⟩
def HeldM (g : Nat) (ad : Addr) (i : Nat) (m x : SNode) (wr wx : World) : Prop :=
  wx.cell? ⟨g, 0, none⟩ = some (.string m.f0) ∧ wx.cell? ⟨g, 1, none⟩ = some (.string m.f1) ∧ wx.cell? (ad.add (i * 2)) = some (.string x.f0) ∧ wx.cell? ⟨(ad.add (i * 2)).block, (ad.add (i * 2)).off + 1, none⟩ = some (.string x.f1) ∧ Below wr.heap.size wr wx
theorem HeldM.below {g : Nat} {ad : Addr} {i : Nat} {m x : SNode} {wr wx w' : World} (hb : Below wx.heap.size wx w') (h : HeldM g ad i m x wr wx) : HeldM g ad i m x wr w' := by
  obtain ⟨h1, h2, h3, h4, h5⟩ := h
  have go : ∀ a v, wx.cell? a = some v → w'.cell? a = some v := fun a v hv => (hb.cell (World.block_lt_of_cell? wx _ hv)).trans hv
  exact ⟨go _ _ h1, go _ _ h2, go _ _ h3, go _ _ h4, below_then h5 h5.size hb⟩
set_option maxHeartbeats 1000000 in
set_option maxRecDepth 1000000 in
theorem minFunc_calls (A : Option Addr) (c : Nat) (l : List SNode) (a : SNode) (t : List SNode) (hl : l = a :: t) (w : World) (hr : Kd.C k24 w A l.length l) (hg : ∀ x ∈ l, goodN x) (hbig : l.length ≤ 1000000) :
    Calls Tryz.prog 77 #[.slice A l.length c, .func (.func 75) #[] #[]] w fun e w' => e = .returned (.agg #[.string (minF a t).f0, .string (minF a t).f1]) ∧ Below w.heap.size w w' := by
  have hn : 0 < l.length := by rw [hl]; simp
  have hlen : l.length = t.length + 1 := by rw [hl]; simp
  obtain ⟨ad, ea, p0, p1⟩ := at_T24 hr (0 : Int) (by omega) (by omega)
  have hx0 : rd_T24 l (0 : Int) = a := by rw [hl]; rfl
  rw [hx0] at p0 p1
  cases ea
  have hb0 : Below w.heap.size w (w.alloc (.cells #[.string ⟨#[]⟩, .string ⟨#[]⟩] 24)) := (Below.refl _ _).alloc (Nat.le_refl _) _
  replace p0 : (w.alloc (.cells #[.string ⟨#[]⟩, .string ⟨#[]⟩] 24)).cell? ad = some (.string a.f0) := (hb0.cell (World.block_lt_of_cell? w _ p0)).trans p0
  replace p1 : (w.alloc (.cells #[.string ⟨#[]⟩, .string ⟨#[]⟩] 24)).cell? ⟨ad.block, ad.off + 1, none⟩ = some (.string a.f1) := (hb0.cell (World.block_lt_of_cell? w _ p1)).trans p1
  clear hb0
  have HR := Aside0.mk hr
  have HG := Aside0.mk hg
  have HL := Aside0.mk hl
  have HLEN := Aside0.mk hlen
  have hlt1 : ¬ ((l.length : Int) < 1) := by omega
  clear hr hg hl hx0 hlen
  have S0 : MSt w a ((w.alloc (.cells #[.string ⟨#[]⟩, .string ⟨#[]⟩] 24)).alloc (.cells #[.string a.f0, .string a.f1] 24)) := by
    refine ⟨?_, ?_, ((Below.refl _ _).alloc (Nat.le_refl _) _).alloc (by simp) _⟩
    · rw [Below.heap_alloc _ _ _ (by simp)]; exact heap_alloc_new _ _
    · have := heap_alloc_new (w.alloc (.cells #[.string ⟨#[]⟩, .string ⟨#[]⟩] 24)) (.cells #[.string a.f0, .string a.f1] 24)
      simpa using this
  have HS0 := Aside0.mk S0
  clear S0
  go_enter Tryz.func77, Tryz.ntmps77
  go_wp2
  go_loopg [6] t.length (fun gg v6 wx => ∃ i : Nat, 1 ≤ i ∧ i + gg = l.length ∧ v6 = .int .i64 (i : Int) ∧ Aside0 (MSt w (minF a (t.take (i - 1))) wx))
  case atStart => exact ⟨1, by omega, by have := HLEN.out; omega, rfl, HS0⟩
  case round =>
    obtain ⟨i, hi1, hig, rfl, HS⟩ := hrel
    clear p0 p1 HS0
    have hm := cell_of_row wr (w.heap.size + 1) 0 _ _ _ HS.out.m
    have hm1 := cell_of_row wr (w.heap.size + 1) 1 _ _ _ HS.out.m
    simp only [List.getElem?_toArray, List.getElem?_cons_zero, List.getElem?_cons_succ] at hm hm1
    cases gk with
    | zero =>
      obtain rfl : i = l.length := by omega
      have hiz : ¬ ((l.length : Int) < (l.length : Int)) := by omega
      have HE : Aside0 (minF a (t.take (l.length - 1)) = minF a t) := ⟨by rw [HLEN.out, Nat.add_sub_cancel, List.take_length]⟩
      rw [HE.out] at HS hm hm1
      have hz0 := cell_of_row wr w.heap.size 0 _ _ _ HS.out.z
      have hz1 := cell_of_row wr w.heap.size 1 _ _ _ HS.out.z
      simp only [List.getElem?_toArray, List.getElem?_cons_zero, List.getElem?_cons_succ] at hz0 hz1
      have hzf : wr.frozen? ⟨w.heap.size, 0, none⟩ = false := by simp [World.frozen?, HS.out.z]
      have hzf1 : wr.frozen? ⟨w.heap.size, 1, none⟩ = false := by simp [World.frozen?, HS.out.z]
      go_wp2
      refine bodyPost_ret (results_cell_row rfl _ _ w.heap.size 24 #[.string (minF a t).f0, .string (minF a t).f1] (0, 0) _ rfl (blk_put (cs := #[.string (minF a t).f0, .string ⟨#[]⟩]) (blk_put (cs := #[.string ⟨#[]⟩, .string ⟨#[]⟩]) HS.out.z 0 _ rfl) 1 _ rfl) Tryz.underlying24 rfl (by kernel_rfl)) rfl ⟨rfl, ?_⟩
      exact (HS.out.b.setCell (p := ⟨w.heap.size, 0, none⟩) (Nat.le_refl _) _).setCell (p := ⟨w.heap.size, 1, none⟩) (Nat.le_refl _) _
    | succ gg =>
      have hi : i < l.length := by omega
      have hiz : (i : Int) < (l.length : Int) := by omega
      obtain ⟨ad', ea, p0, p1⟩ := at_T24 HR.out (i : Int) (by omega) hiz
      cases ea
      have hx : rd_T24 l (i : Int) = l[i] := rdOf_at _ _ _ hi
      rw [hx] at p0 p1
      simp only [Int.toNat_natCast] at p0 p1
      replace p0 := (HS.out.b.cell (World.block_lt_of_cell? w _ p0)).trans p0
      replace p1 := (HS.out.b.cell (World.block_lt_of_cell? w _ p1)).trans p1
      have HGX : Aside0 (goodN l[i]) := ⟨HG.out _ (List.getElem_mem hi)⟩
      have HT : Aside0 (t.take (i + 1 - 1) = t.take (i - 1) ++ [l[i]]) := ⟨by
        have hl := HL.out
        subst hl
        obtain ⟨j, rfl⟩ : ∃ j, i = j + 1 := ⟨i - 1, by omega⟩
        have hj : j < t.length := by simp at hi; omega
        simp only [Nat.add_sub_cancel, List.getElem_cons_succ]
        rw [List.take_add_one, List.getElem?_eq_getElem hj]
        rfl⟩
      have HGM : Aside0 (goodN (minF a (t.take (i - 1)))) := ⟨by
        have h1 := Gw.minFold ndC_total (t.take (i - 1)) a (HG.out a (by rw [HL.out]; simp)) (fun x hx => HG.out x (by rw [HL.out]; exact List.mem_cons_of_mem _ (List.mem_of_mem_take hx)))
        rcases h1.1 with h2 | h2
        · unfold minF; rw [h2]; exact HG.out a (by rw [HL.out]; simp)
        · exact HG.out _ (by rw [HL.out]; exact List.mem_cons_of_mem _ (List.mem_of_mem_take h2))⟩
      clear hx
      generalize l[i] = x at p0 p1 HGX HT
      generalize hmm : minF a (t.take (i - 1)) = m at HS hm hm1 HGM
      have HMM := Aside0.mk hmm
      clear hmm
      have hcall := fun W => why_order_calls x m HGX.out HGM.out W
      have hS0 : HeldM (w.heap.size + 1) ad i m x wr wr.drew := ⟨hm, hm1, p0, p1, below_drew1 (Below.refl _ _)⟩
      clear hm hm1
      go_wp2
      go_cut [27] (fun v27 wc => v27 = .bool (decide (ndC x m < 0)) ∧ Aside0 (Below wr.heap.size wr wc))
      case first =>
        go_region_held3 (fun wx => wx.cell? ⟨w.heap.size + 1, 0, none⟩ = some (.string m.f0) ∧ wx.cell? ⟨w.heap.size + 1, 1, none⟩ = some (.string m.f1) ∧ wx.cell? (ad.add (i * 2)) = some (.string x.f0) ∧ wx.cell? ⟨(ad.add (i * 2)).block, (ad.add (i * 2)).off + 1, none⟩ = some (.string x.f1) ∧ Below wr.heap.size wr wx) (first | exact hS0 | exact HeldM.below hb (by assumption)) (first | (go_at_call 75; (with_reducible refine (hcall _).mono ?_); rintro e w3 ⟨rfl, hb⟩))
        have hh : HeldM (w.heap.size + 1) ad i m x wr w3 := by assumption
        have HBB := Aside0.mk hh.2.2.2.2
        clear hh
        go_wp2_with fail
        go_meet
        case rel => exact ⟨rfl, HBB⟩
      case rest =>
        obtain ⟨rfl, HBB⟩ := hcut
        have HSC := Aside0.mk (HS.out.calm HBB.out)
        clear hS0 hcall
        replace p0 := (HBB.out.cell (World.block_lt_of_cell? wr _ p0)).trans p0
        replace p1 := (HBB.out.cell (World.block_lt_of_cell? wr _ p1)).trans p1
        have hm := cell_of_row wc (w.heap.size + 1) 0 _ _ _ HSC.out.m
        have hm1 := cell_of_row wc (w.heap.size + 1) 1 _ _ _ HSC.out.m
        simp only [List.getElem?_toArray, List.getElem?_cons_zero, List.getElem?_cons_succ] at hm hm1
        have hzf : wc.frozen? ⟨w.heap.size + 1, 0, none⟩ = false := by simp [World.frozen?, HSC.out.m]
        have hzf1 : wc.frozen? ⟨w.heap.size + 1, 1, none⟩ = false := by simp [World.frozen?, HSC.out.m]
        cases hd : decide (ndC x m < 0)
        · have HD := Aside0.mk hd
          clear hd
          go_wp2
          go_roundg gg
          case measure => omega
          case rel =>
            refine ⟨i + 1, by omega, by omega, by go_num, ⟨?_⟩⟩
            have e : minF a (t.take (i + 1 - 1)) = m := by
              rw [HT.out]
              unfold minF
              rw [List.foldl_append]
              have h1 := HMM.out
              unfold minF at h1
              rw [h1]
              simp only [List.foldl_cons, List.foldl_nil]
              rw [if_neg (of_decide_eq_false HD.out)]
            rw [e]
            exact HSC.out
        · have HD := Aside0.mk hd
          clear hd
          go_wp2
          go_roundg gg
          case measure => omega
          case rel =>
            refine ⟨i + 1, by omega, by omega, by go_num, ⟨?_⟩⟩
            have e : minF a (t.take (i + 1 - 1)) = x := by
              rw [HT.out]
              unfold minF
              rw [List.foldl_append]
              have h1 := HMM.out
              unfold minF at h1
              rw [h1]
              simp only [List.foldl_cons, List.foldl_nil]
              rw [if_pos (of_decide_eq_true HD.out)]
            rw [e]
            refine ⟨?_, blk_put (cs := #[.string x.f0, .string m.f1]) (blk_put (cs := #[.string m.f0, .string m.f1]) HSC.out.m 0 _ rfl) 1 _ rfl, (HSC.out.b.setCell (p := ⟨w.heap.size + 1, 0, none⟩) (by simp) _).setCell (p := ⟨w.heap.size + 1, 1, none⟩) (by simp) _⟩
            rw [Below.heap_setCell _ ⟨w.heap.size + 1, 1, none⟩ _ _ (by simp), Below.heap_setCell _ ⟨w.heap.size + 1, 0, none⟩ _ _ (by simp)]
            exact HSC.out.z
end Go.Proofs.YtjfcmkddeglghaaGreatDoor.G
end
section
namespace Go.Proofs.YtjfcmkddeglghaaGreatDoor.G
open Go.RowKit Gw Go.Proofs.YtjfcmkddeglghaaGreatDoorW.PrintWords Go.Proofs.YtjfcmkddeglghaaGreatDoorW.PrintLast Go.Proofs.YtjfcmkddeglghaaGreatDoorW.PrintMore
set_option linter.unusedVariables false
set_option linter.unusedSimpArgs false
def ChPost (ds : List SNode) (z : Int) (w : World) (e : Ending) (w' : World) : Prop := ∃ v0_ : Value, e = .returned (.tuple #[v0_, .int .i64 z]) ∧ Kd.R k24 24 w' w.heap.size (fun _ => True) v0_ ds ∧ Below w.heap.size w w'
abbrev nBox (n : SNode) : Obj := .cells #[.string n.f0, .string n.f1] 24
set_option maxHeartbeats 1000000 in
set_option maxRecDepth 1000000 in
theorem chain_bad1 (A0 : Option Addr) (c0 : Nat) (l : List SNeed) (n : SNode) (w : World) (hr0 : Kd.C k49 w A0 l.length l) (hc0 : l.length ≤ c0) (hok : ∀ x ∈ l, okNeed x = true) (hb : l.any badNeed = true) :
    Calls Tryz.prog 18 #[.slice A0 l.length c0, .agg #[.string n.f0, .string n.f1]] w (ChPost [] 1 w) := by
  have hb0 : Below w.heap.size w (w.alloc (nBox n)) := (Below.refl _ _).alloc (Nat.le_refl _) _
  have hc := lack_Check.calls A0 c0 l 1 (w.alloc (nBox n)) (Kd.C_below hr0 hb0) hc0 (by unfold lack_Check.f; rw [if_pos (List.all_eq_true.2 hok), if_pos hb])
  have HC := Aside0.mk hc
  have HB0 := Aside0.mk hb0
  clear hc hr0 hc0 hok hb hb0
  go_enter Tryz.func18, Tryz.ntmps18
  go_wp2_with fail
  refine HC.out.mono ?_
  rintro e w1 ⟨rfl, hb1⟩
  have HB := Aside0.mk (below_then HB0.out HB0.out.size hb1)
  clear hb1
  go_wp2
  go_ret2
  exact ⟨_, rfl, Kd.R_nil _ _ _ _ _, HB.out⟩
set_option maxHeartbeats 1000000 in
set_option maxRecDepth 1000000 in
theorem chain_bad2 (A0 : Option Addr) (c0 : Nat) (l : List SNeed) (n : SNode) (w : World) (hr0 : Kd.C k49 w A0 l.length l) (hc0 : l.length ≤ c0) (hok : ∀ x ∈ l, okNeed x = true) (hn : okNode n = true) (hb : l.any badNeed = false) (hm : mayN n = false) :
    Calls Tryz.prog 18 #[.slice A0 l.length c0, .agg #[.string n.f0, .string n.f1]] w (ChPost [] 1 w) := by
  have hb0 : Below w.heap.size w (w.alloc (nBox n)) := (Below.refl _ _).alloc (Nat.le_refl _) _
  have hc := lack_Check.calls A0 c0 l 0 (w.alloc (nBox n)) (Kd.C_below hr0 hb0) hc0 (by unfold lack_Check.f; rw [if_pos (List.all_eq_true.2 hok), if_neg (by rw [hb]; simp)])
  have hmay := fun W => node_May_calls n W hn
  rw [hm] at hmay
  have HMAY := Aside0.mk hmay
  have HC := Aside0.mk hc
  have HB0 := Aside0.mk hb0
  clear hc hr0 hc0 hok hb hb0 hmay hm hn
  go_enter Tryz.func18, Tryz.ntmps18
  go_wp2_with fail
  refine HC.out.mono ?_
  rintro e w1 ⟨rfl, hb1⟩
  have HB := Aside0.mk (below_then HB0.out HB0.out.size hb1)
  have hbx := (hb1.block w.heap.size (by simp)).trans (heap_alloc_new w (nBox n))
  have b0 := cell_of_row w1 w.heap.size 0 _ _ _ hbx
  have b1 := cell_of_row w1 w.heap.size 1 _ _ _ hbx
  simp only [List.getElem?_toArray, List.getElem?_cons_zero, List.getElem?_cons_succ] at b0 b1
  clear hb1 hbx
  go_wp2_with fail
  refine (HMAY.out _).mono ?_
  rintro e w2 ⟨rfl, hb2⟩
  have HB2 := Aside0.mk (below_then HB.out HB.out.size hb2)
  clear hb2 b0 b1
  go_wp2
  go_ret2
  exact ⟨_, rfl, Kd.R_nil _ _ _ _ _, HB2.out⟩
structure CM (w : World) (n : SNode) (r : DMap) (B : Nat) (wx : World) : Prop where
  n : wx.heap[w.heap.size]? = some (.cells #[.string n.f0, .string n.f1] 24 (0, 0))
  m : MapIs wx B r
  b : Below w.heap.size w wx
  ge : w.heap.size < B
theorem CM.calm {w wx w1 : World} {n : SNode} {r : DMap} {B : Nat} (h : CM w n r B wx) (hb : Below wx.heap.size wx w1) : CM w n r B w1 :=
  ⟨(hb.block _ (Array.getElem?_eq_some_iff.1 h.n).1).trans h.n, h.m.below hb, below_then h.b h.b.size hb, h.ge⟩
theorem CM.grown {w wx w1 : World} {n : SNode} {r : DMap} {B : Nat} {row : Option Nat} (h : CM w n r B wx) (hg : wx.grownBy w1 row) (h1 : some w.heap.size ≠ row) (h2 : some B ≠ row) (hb : Below w.heap.size w w1) : CM w n r B w1 :=
  ⟨(hg.block _ (Array.getElem?_eq_some_iff.1 h.n).1 h1).trans h.n, (hg.block _ (Array.getElem?_eq_some_iff.1 (show wx.heap[B]? = _ from h.m)).1 h2).trans h.m, hb, h.ge⟩
set_option maxHeartbeats 1000000 in
set_option maxRecDepth 1000000 in
theorem chain_none (A0 : Option Addr) (c0 : Nat) (l : List SNeed) (n : SNode) (r : DMap) (w : World) (hr0 : Kd.C k49 w A0 l.length l) (hc0 : l.length ≤ c0) (hl : l.length ≤ 1000) (hok : ∀ x ∈ l, okNeed x = true) (hn : okNode n = true) (hb : l.any badNeed = false) (hm : mayN n = true)
    (hr : outerD l (l.length + 2) 1 [zN] [] = some r) (hlook : lookM r n = none) :
    Calls Tryz.prog 18 #[.slice A0 l.length c0, .agg #[.string n.f0, .string n.f1]] w (ChPost [] 11 w) := by
  have hb0 : Below w.heap.size w (w.alloc (nBox n)) := (Below.refl _ _).alloc (Nat.le_refl _) _
  have hc := lack_Check.calls A0 c0 l 0 (w.alloc (nBox n)) (Kd.C_below hr0 hb0) hc0 (by unfold lack_Check.f; rw [if_pos (List.all_eq_true.2 hok), if_neg (by rw [hb]; simp)])
  have hmay := fun W => node_May_calls n W hn
  rw [hm] at hmay
  have HMAY := Aside0.mk hmay
  have HC := Aside0.mk hc
  have HB0 := Aside0.mk hb0
  have HD : Aside0 (∀ w1, Below w.heap.size w w1 → Calls Tryz.prog 72 #[.slice A0 l.length c0] w1 fun e w' => e = .returned (.map (some w1.heap.size)) ∧ MapIs w' w1.heap.size r ∧ Below w1.heap.size w1 w') := ⟨fun w1 hb1 => why_depths_calls A0 c0 l r w1 (by omega) (Kd.C_below hr0 hb1) hr⟩
  have HLK := Aside0.mk hlook
  clear hc hr0 hc0 hok hb hb0 hmay hm hn hr hlook
  go_enter Tryz.func18, Tryz.ntmps18
  go_wp2_with fail
  refine HC.out.mono ?_
  rintro e w1 ⟨rfl, hb1⟩
  have HB := Aside0.mk (below_then HB0.out HB0.out.size hb1)
  have hbx := (hb1.block w.heap.size (by simp)).trans (heap_alloc_new w (nBox n))
  have b0 := cell_of_row w1 w.heap.size 0 _ _ _ hbx
  have b1 := cell_of_row w1 w.heap.size 1 _ _ _ hbx
  simp only [List.getElem?_toArray, List.getElem?_cons_zero, List.getElem?_cons_succ] at b0 b1
  have HBX := Aside0.mk hbx
  have hlt1 : w.heap.size < w1.heap.size := (Array.getElem?_eq_some_iff.1 hbx).1
  clear hb1 hbx
  go_wp2_with fail
  refine (HMAY.out _).mono ?_
  rintro e w2 ⟨rfl, hb2⟩
  have HB2 := Aside0.mk (below_then HB.out HB.out.size hb2)
  have HBX2 := Aside0.mk ((hb2.block _ (Array.getElem?_eq_some_iff.1 HBX.out).1).trans HBX.out)
  clear hb2 b0 b1
  go_wp2_with fail
  refine (HD.out _ HB2.out).mono ?_
  rintro e w3 ⟨rfl, hm3, hb3⟩
  have S3 : CM w n r w2.heap.size w3 := ⟨(hb3.block _ (Array.getElem?_eq_some_iff.1 HBX2.out).1).trans HBX2.out, hm3, below_then HB2.out HB2.out.size hb3, (Array.getElem?_eq_some_iff.1 HBX2.out).1⟩
  have HS3 := Aside0.mk S3
  clear hm3 hb3 S3
  have b0 := cell_of_row w3 w.heap.size 0 _ _ _ HS3.out.n
  have b1 := cell_of_row w3 w.heap.size 1 _ _ _ HS3.out.n
  simp only [List.getElem?_toArray, List.getElem?_cons_zero, List.getElem?_cons_succ] at b0 b1
  have hlk := run_lookup_ok n w3 w2.heap.size r HS3.out.m
  rw [HLK.out] at hlk
  simp only [keyV, Option.isSome_none, Option.getD_none] at hlk
  go_wp2
  go_ret2
  exact ⟨_, rfl, Kd.R_nil _ _ _ _ _, HS3.out.b⟩
theorem R_madeN (W : World) (base m : Nat) (ok : Nat → Prop) (hb : base ≤ W.heap.size) (hm : m ≤ 1000) (hok : ok W.heap.size) :
    Kd.R k24 24 (W.alloc (.cells (madeCells #[.string ⟨#[]⟩, .string ⟨#[]⟩] (m * 2)) 24)) base ok (.slice (some ⟨W.heap.size, 0, none⟩) m m) (List.replicate m zN) := by
  have hrep : Reps (fun x c => c = [.string x.f0, .string x.f1]) 2 (List.replicate m zN) (madeCells #[.string ⟨#[]⟩, .string ⟨#[]⟩] (m * 2)).toList :=
    Kd.reps_made (R := fun (x : SNode) c => c = [.string x.f0, .string x.f1]) (z := .agg #[.string ⟨#[]⟩, .string ⟨#[]⟩]) (size := 2) (z0 := zN) rfl (by decide) rfl m
  refine ⟨fun k hk => ?_, (madeCells #[.string ⟨#[]⟩, .string ⟨#[]⟩] (m * 2)).toList, ?_, hrep.imp_ (fun x c hc => by subst hc; exact k24_mkM _ _ _ x)⟩
  · have : W.heap.size = k := by simpa [Value.ownBlock] using hk
    subst this
    exact hok
  · have h2 := World.ownsRow_lit (base := base) (e := 24) (size := 2) W (madeCells #[.string ⟨#[]⟩, .string ⟨#[]⟩] (m * 2)) m hb (by unfold maxLen; omega) (by simp [size_madeCells])
    rw [List.length_replicate]
    exact h2
theorem run_makeN (m : Nat) (hm : m ≤ 1000) (W : World) : (Instr.makeSlice 31 (.int .i64 (m : Int)) (.int .i64 (m : Int))).run Tryz.prog W = .ok (.slice (some ⟨W.heap.size, 0, none⟩) m m) (W.alloc (.cells (madeCells #[.string ⟨#[]⟩, .string ⟨#[]⟩] (m * 2)) 24)) := by
  obtain ⟨i0, hi, hzz⟩ := Option.map_eq_some_iff.1 info24
  simp only [Prod.mk.injEq] at hzz
  obtain ⟨hz0, hz1, hz2⟩ := hzz
  have hr := run_make (P := Tryz.prog) W 31 24 i0 _ Tryz.underlying31 hi hz0 .i64 .i64 (m : Int) (m : Int) (by omega) (by omega) (by rw [hz2]; omega) (by omega)
  simp only [Int.toNat_natCast] at hr
  rw [hz1] at hr
  exact hr
section
variable {W w1 : World} {base g n cap : Nat} {ok : Nat → Prop} {xs : List SNode}
theorem R_cellsN (h : Kd.R k24 24 W base ok (.slice (some ⟨g, 0, none⟩) n cap) xs) (i : Nat) (hi : i < xs.length) :
    W.cell? ⟨g, i * 2, none⟩ = some (.string xs[i].f0) ∧ W.cell? ⟨g, i * 2 + 1, none⟩ = some (.string xs[i].f1) ∧ W.frozen? ⟨g, i * 2, none⟩ = false ∧ W.frozen? ⟨g, i * 2 + 1, none⟩ = false := by
  obtain ⟨hn, _, _⟩ := Kd.R_reads' h
  obtain ⟨c, hcl, hM, hcc, hf⟩ := Kd.R_elem h zN (i : Int) (by omega) (by omega)
  simp only [Int.toNat_natCast] at hM hcc hf
  have hx : xs.getD i zN = xs[i] := by rw [List.getD_eq_getElem?_getD, List.getElem?_eq_getElem hi]; rfl
  rw [hx] at hM
  have e := flatN.inv _ _ _ _ _ hM
  subst e
  exact ⟨hcc 0 _ rfl, hcc 1 _ rfl, hf 0, hf 1⟩
theorem R_putN (h : Kd.R k24 24 W base ok (.slice (some ⟨g, 0, none⟩) n cap) xs) (i : Nat) (hi : i < xs.length) (x : SNode) :
    Kd.R k24 24 ((W.setCell ⟨g, i * 2, none⟩ (.string x.f0)).setCell ⟨g, i * 2 + 1, none⟩ (.string x.f1)) base ok (.slice (some ⟨g, 0, none⟩) n cap) (xs.set i x) ∧ W.grownBy ((W.setCell ⟨g, i * 2, none⟩ (.string x.f0)).setCell ⟨g, i * 2 + 1, none⟩ (.string x.f1)) (some g) := by
  obtain ⟨hn, _, _⟩ := Kd.R_reads' h
  obtain ⟨c, hcl, hM, hcc, hf⟩ := Kd.R_elem h zN (i : Int) (by omega) (by omega)
  have hcl' : c.length = 2 := hcl
  have h2 := Kd.R_seg h (i : Int) (by omega) (by omega) (c := c) (seg := [.string x.f0, .string x.f1]) (j := 0) hcl hcc (by show 0 + 2 ≤ 2; omega) (x' := x) (okp := fun _ => False) (by
    have : c.take 0 ++ [Value.string x.f0, Value.string x.f1] ++ c.drop (0 + [Value.string x.f0, Value.string x.f1].length) = [.string x.f0, .string x.f1] := by
      rw [List.drop_of_length_le (by simp [hcl'])]
      simp
    rw [this]
    exact k24_mkM _ _ _ x) (fun _ hk => hk.elim)
  have h3 : k24.sz = 2 := rfl
  simp only [Int.toNat_natCast, h3, Nat.add_zero, World.setCells] at h2
  exact h2
end
structure CSt (w : World) (n : SNode) (r : DMap) (B g dd : Nat) (outs : List SNode) (wx : World) : Prop where
  c : CM w n r B wx
  o : Kd.R k24 24 wx w.heap.size (fun k => k ≠ w.heap.size ∧ k ≠ B) (.slice (some ⟨g, 0, none⟩) (dd + 1) (dd + 1)) outs
section
variable {w wx w1 : World} {n x : SNode} {r : DMap} {B g dd i : Nat} {outs : List SNode}
theorem CSt.calm (h : CSt w n r B g dd outs wx) (hb : Below wx.heap.size wx w1) : CSt w n r B g dd outs w1 := ⟨h.c.calm hb, Kd.R_below h.o hb⟩
theorem CSt.len (h : CSt w n r B g dd outs wx) : outs.length = dd + 1 := (Kd.R_reads' h.o).1.symm
theorem CSt.gs (h : CSt w n r B g dd outs wx) : g < wx.heap.size ∧ g ≠ w.heap.size ∧ g ≠ B ∧ w.heap.size ≤ g := ⟨Kd.R_lt h.o g rfl, (h.o.1 g rfl).1, (h.o.1 g rfl).2, Kd.R_base h.o g rfl⟩
theorem CSt.grown {row : Option Nat} (h : CSt w n r B g dd outs wx) (hg : wx.grownBy w1 row) (h1 : some w.heap.size ≠ row) (h2 : some B ≠ row) (h3 : some g ≠ row) (hb : Below w.heap.size w w1) : CSt w n r B g dd outs w1 :=
  ⟨h.c.grown hg h1 h2 hb, Kd.R_mono (Kd.R_grown (Kd.R_tight2 rfl h.o) hg (fun k hk => by
    have : g = k := by have := hk.1; simpa [Value.ownBlock] using this.symm
    rw [← this]; exact h3)) (fun _ hk => hk.2)⟩
theorem CSt.put (h : CSt w n r B g dd outs wx) (hi : i < outs.length) (x : SNode) : CSt w n r B g dd (outs.set i x) ((wx.setCell ⟨g, i * 2, none⟩ (.string x.f0)).setCell ⟨g, i * 2 + 1, none⟩ (.string x.f1)) := by
  obtain ⟨h1, h2⟩ := R_putN h.o i hi x
  obtain ⟨_, a1, a2, a3⟩ := h.gs
  exact ⟨h.c.grown h2 (fun e => a1 (by injection e with e; exact e.symm)) (fun e => a2 (by injection e with e; exact e.symm)) ((h.c.b.setCell (p := ⟨g, i * 2, none⟩) a3 _).setCell (p := ⟨g, i * 2 + 1, none⟩) a3 _), h1⟩
end
def farM (r : DMap) (y : SNode) : Int := (lookM r y).getD 0
set_option maxHeartbeats 1000000 in
set_option maxRecDepth 1000000 in
theorem chain_ok (A0 : Option Addr) (c0 : Nat) (l : List SNeed) (n : SNode) (r : DMap) (dd : Nat) (res : List SNode) (w : World) (hr0 : Kd.C k49 w A0 l.length l) (hc0 : l.length ≤ c0) (hl : l.length ≤ 1000) (hok : ∀ x ∈ l, okNeed x = true) (hn : okNode n = true) (hb : l.any badNeed = false) (hm : mayN n = true)
    (hr : outerD l (l.length + 2) 1 [zN] [] = some r) (hlook : lookM r n = some ((dd : Int) + 1)) (hdd : dd ≤ 900) (hres : pChain ndC (prs l) (farM r) dd n = some res) (hpar : ∀ (i : Nat) (y x : SNode), x ∈ parents (prs l) (farM r) (i + 1) y → goodN x) :
    Calls Tryz.prog 18 #[.slice A0 l.length c0, .agg #[.string n.f0, .string n.f1]] w (ChPost res 0 w) := by
  have hb0 : Below w.heap.size w (w.alloc (nBox n)) := (Below.refl _ _).alloc (Nat.le_refl _) _
  have hc := lack_Check.calls A0 c0 l 0 (w.alloc (nBox n)) (Kd.C_below hr0 hb0) hc0 (by unfold lack_Check.f; rw [if_pos (List.all_eq_true.2 hok), if_neg (by rw [hb]; simp)])
  have hmay := fun W => node_May_calls n W hn
  have HGN : Aside0 (goodN n) := ⟨⟨hn, hm⟩⟩
  rw [hm] at hmay
  have HMAY := Aside0.mk hmay
  have HC := Aside0.mk hc
  have HB0 := Aside0.mk hb0
  have HD : Aside0 (∀ w1, Below w.heap.size w w1 → Calls Tryz.prog 72 #[.slice A0 l.length c0] w1 fun e w' => e = .returned (.map (some w1.heap.size)) ∧ MapIs w' w1.heap.size r ∧ Below w1.heap.size w1 w') := ⟨fun w1 hb1 => why_depths_calls A0 c0 l r w1 (by omega) (Kd.C_below hr0 hb1) hr⟩
  have HLK := Aside0.mk hlook
  have HRES := Aside0.mk hres
  have HPAR := Aside0.mk hpar
  have HR := Aside0.mk hr0
  clear hc hr0 hc0 hok hb hb0 hmay hm hn hr hlook hres hpar
  go_enter Tryz.func18, Tryz.ntmps18
  go_wp2_with fail
  refine HC.out.mono ?_
  rintro e w1 ⟨rfl, hb1⟩
  have HB := Aside0.mk (below_then HB0.out HB0.out.size hb1)
  have hbx := (hb1.block w.heap.size (by simp)).trans (heap_alloc_new w (nBox n))
  have b0 := cell_of_row w1 w.heap.size 0 _ _ _ hbx
  have b1 := cell_of_row w1 w.heap.size 1 _ _ _ hbx
  simp only [List.getElem?_toArray, List.getElem?_cons_zero, List.getElem?_cons_succ] at b0 b1
  have HBX := Aside0.mk hbx
  have hlt1 : w.heap.size < w1.heap.size := (Array.getElem?_eq_some_iff.1 hbx).1
  clear hb1 hbx
  go_wp2_with fail
  refine (HMAY.out _).mono ?_
  rintro e w2 ⟨rfl, hb2⟩
  have HB2 := Aside0.mk (below_then HB.out HB.out.size hb2)
  have HBX2 := Aside0.mk ((hb2.block _ (Array.getElem?_eq_some_iff.1 HBX.out).1).trans HBX.out)
  clear hb2 b0 b1
  go_wp2_with fail
  refine (HD.out _ HB2.out).mono ?_
  rintro e w3 ⟨rfl, hm3, hb3⟩
  have S3 : CM w n r w2.heap.size w3 := ⟨(hb3.block _ (Array.getElem?_eq_some_iff.1 HBX2.out).1).trans HBX2.out, hm3, below_then HB2.out HB2.out.size hb3, (Array.getElem?_eq_some_iff.1 HBX2.out).1⟩
  have HS3 := Aside0.mk S3
  clear hm3 hb3
  have b0 := cell_of_row w3 w.heap.size 0 _ _ _ HS3.out.n
  have b1 := cell_of_row w3 w.heap.size 1 _ _ _ HS3.out.n
  simp only [List.getElem?_toArray, List.getElem?_cons_zero, List.getElem?_cons_succ] at b0 b1
  have hlk := run_lookup_ok n w3 w2.heap.size r HS3.out.m
  rw [HLK.out] at hlk
  simp only [keyV, Option.isSome_some, Option.getD_some] at hlk
  have hmk := run_makeN (dd + 1) (by omega) w3
  have hmadeb : Below w3.heap.size w3 (w3.alloc (.cells (madeCells #[.string ⟨#[]⟩, .string ⟨#[]⟩] ((dd + 1) * 2)) 24)) := (Below.refl _ _).alloc (Nat.le_refl _) _
  have hltn : w.heap.size < w3.heap.size := (Array.getElem?_eq_some_iff.1 S3.n).1
  have hltB : w2.heap.size < w3.heap.size := (Array.getElem?_eq_some_iff.1 (show w3.heap[w2.heap.size]? = _ from S3.m)).1
  have hRm := R_madeN w3 w.heap.size (dd + 1) (fun k => k ≠ w.heap.size ∧ k ≠ w2.heap.size) (by omega) (by omega) ⟨by omega, by omega⟩
  simp only [Int.natCast_add, Int.natCast_one] at hmk
  generalize w3.alloc (.cells (madeCells #[.string ⟨#[]⟩, .string ⟨#[]⟩] ((dd + 1) * 2)) 24) = w4 at hmk hmadeb hRm
  have S4 : CSt w n r w2.heap.size w3.heap.size dd (List.replicate (dd + 1) zN) w4 := ⟨S3.calm hmadeb, hRm⟩
  have HS4 := Aside0.mk S4
  clear hmadeb hRm hltn hltB S3
  obtain ⟨f0, f1, f2, f3⟩ := R_cellsN S4.o dd (by simp)
  have d0 := cell_of_row w4 w.heap.size 0 _ _ _ HS4.out.c.n
  have d1 := cell_of_row w4 w.heap.size 1 _ _ _ HS4.out.c.n
  simp only [List.getElem?_toArray, List.getElem?_cons_zero, List.getElem?_cons_succ] at d0 d1
  have HS5 := Aside0.mk (S4.put (i := dd) (by simp) n)
  clear S4
  go_wp2
  have HSTART : Aside0 ((List.replicate (dd + 1) zN).set dd n |>.drop dd |> (· = [n])) := ⟨by
    show ((List.replicate (dd + 1) zN).set dd n).drop dd = [n]
    have h1 : ((List.replicate (dd + 1) zN).set dd n).length = dd + 1 := by simp
    rw [drop_at _ dd (by rw [h1]; omega), List.drop_of_length_le (by rw [h1]; omega)]
    simp⟩
  go_loopg [10] dd (fun q v10 wx => ∃ (z : Int) (outs : List SNode) (y : SNode) (tail : List SNode), v10 = .int .i64 z ∧ z + 1 = (q : Int) ∧ q ≤ dd ∧ Aside0 (outs.drop q = y :: tail) ∧ Aside0 ((pChain ndC (prs l) (farM r) q y).map (· ++ tail) = some res) ∧ Aside0 (goodN y) ∧ Aside0 (CSt w n r w2.heap.size w3.heap.size dd outs wx))
  case atStart => exact ⟨_, _, n, [], rfl, by omega, by omega, HSTART, ⟨by rw [HRES.out]; simp⟩, HGN, HS5⟩
  case round =>
    obtain ⟨z, outs, y, tail, rfl, hz, hq, HDR, HPC, HGY, HS⟩ := hrel
    clear HS5 HSTART HS4 d0 d1 f0 f1 f2 f3 b0 b1 hlk hmk
    cases gk with
    | zero =>
      obtain rfl : z = -1 := by omega
      have hE : outs = res := by
        have h1 := HPC.out
        simp only [pChain, Option.map_some] at h1
        have h2 := Option.some.inj h1
        rw [← h2, List.singleton_append, ← HDR.out, List.drop_zero]
      have HE := Aside0.mk hE
      clear hE
      go_wp2
      go_ret2
      exact ⟨_, rfl, HE.out ▸ Kd.R_mono HS.out.o (fun _ _ => trivial), HS.out.c.b⟩
    | succ q =>
      obtain rfl : z = (q : Int) := by omega
      have hz0 : 0 ≤ (q : Int) := by omega
      clear hz
      obtain ⟨m, hmin, hpc⟩ : ∃ m, minL ndC (parents (prs l) (farM r) (q + 1) y) = some m ∧ (pChain ndC (prs l) (farM r) q m).map (· ++ (y :: tail)) = some res := by
        have h1 := HPC.out
        simp only [pChain] at h1
        cases hmn : minL ndC (parents (prs l) (farM r) (q + 1) y) with
        | none => rw [hmn] at h1; simp at h1
        | some m =>
          rw [hmn] at h1
          refine ⟨m, rfl, ?_⟩
          simp only [Option.bind_some, Option.map_map] at h1
          rw [← h1]
          congr 1
          funext t
          simp
      have HMIN := Aside0.mk hmin
      have HPC2 := Aside0.mk hpc
      have hqlen : q + 1 < outs.length := by have := HS.out.len; have h1 := congrArg List.length HDR.out; simp at h1; omega
      have hyo : outs[q + 1] = y := by
        have h1 := HDR.out
        rw [drop_at outs (q + 1) hqlen] at h1
        injection h1
      have HYO := Aside0.mk hyo
      clear hmin hpc hyo
      rename World => W0
      go_wp2
      go_loopg [11, 47] l.length (fun gg v11 v47 wx => ∃ k : Nat, k + gg = l.length ∧ v47 = .int .i64 k ∧ Aside0 (Kd.R k24 24 wx w.heap.size (fun j => (j ≠ w.heap.size ∧ j ≠ w2.heap.size) ∧ j ≠ w3.heap.size) v11 (parents ((prs l).take k) (farM r) (q + 1) y)) ∧ Aside0 (CSt w n r w2.heap.size w3.heap.size dd outs wx))
      case atStart => exact ⟨0, by omega, rfl, ⟨by simp only [List.take_zero, parents]; exact Kd.R_nil _ _ _ _ _⟩, HS⟩
      case round =>
        obtain ⟨k, hkg, rfl, HLS, HT⟩ := hrel
        cases gk with
        | zero =>
          obtain rfl : k = l.length := by omega
          have hkz : ¬ ((l.length : Int) < (l.length : Int)) := by omega
          have HFULL : Aside0 ((prs l).take l.length = prs l) := ⟨List.take_of_length_le (by simp [prs])⟩
          rw [HFULL.out] at HLS
          obtain ⟨A11, c11, hv11, hl11, hC11⟩ := Kd.R_reads HLS.out
          subst hv11
          have HC11 := Aside0.mk hC11
          obtain ⟨a, t, hat⟩ : ∃ a t, parents (prs l) (farM r) (q + 1) y = a :: t := by
            have h1 := HMIN.out
            cases hp : parents (prs l) (farM r) (q + 1) y with
            | nil => rw [hp] at h1; simp [minL] at h1
            | cons a t => exact ⟨a, t, rfl⟩
          have hm : minF a t = m := by
            have h1 := HMIN.out
            rw [hat] at h1
            simp only [minL] at h1
            exact Option.some.inj h1
          have hpl : (parents (prs l) (farM r) (q + 1) y).length ≤ 1000 := by
            unfold parents
            rw [List.length_map]
            exact Nat.le_trans (List.length_filter_le _ _) (by simp [prs]; omega)
          have hmf := minFunc_calls A11 c11 (parents (prs l) (farM r) (q + 1) y) a t hat wr hC11 (fun x hx => HPAR.out q y x hx) (by omega)
          rw [hm] at hmf
          have HMF := Aside0.mk hmf
          have HGM : Aside0 (goodN m) := ⟨HPAR.out q y m (by
            have h1 := minFold ndC_total t a (HPAR.out q y a (by rw [hat]; simp)) (fun x hx => HPAR.out q y x (by rw [hat]; simp [hx]))
            rw [← hm, hat]
            rcases h1.1 with h2 | h2
            · unfold minF; rw [h2]; simp
            · exact List.mem_cons_of_mem _ h2)⟩
          clear hC11 hat hm hmf
          go_wp2_with fail
          refine HMF.out.mono ?_
          rintro e w5 ⟨rfl, hb5⟩
          have HT5 := Aside0.mk (HT.out.calm hb5)
          have hq1 : q < outs.length := by omega
          obtain ⟨f0, f1, f2, f3⟩ := R_cellsN HT5.out.o q hq1
          have HPUT := Aside0.mk (HT5.out.put hq1 m)
          have HDR2 : Aside0 ((outs.set q m).drop q = m :: y :: tail) := ⟨by
            rw [drop_at (outs.set q m) q (by simpa using hq1), List.getElem_set_self, List.drop_set_of_lt (by omega), HDR.out]⟩
          clear hb5
          go_wp2
          go_roundg q
          case measure => omega
          case rel => exact ⟨_, outs.set q m, m, y :: tail, rfl, by omega, by omega, HDR2, HPC2, HGM, HPUT⟩
        | succ gg =>
          have hk : k < l.length := by omega
          have hkz : (k : Int) < (l.length : Int) := by omega
          obtain ⟨ad, ea, q0, q1, q2, q3⟩ := at_T49 HR.out (k : Int) (by omega) hkz
          cases ea
          have hx : rd_T49 l (k : Int) = l[k] := rdOf_at _ _ _ hk
          rw [hx] at q0 q1 q2 q3
          simp only [Int.toNat_natCast] at q0 q1 q2 q3
          replace q0 := (HT.out.c.b.cell (World.block_lt_of_cell? w _ q0)).trans q0
          replace q1 := (HT.out.c.b.cell (World.block_lt_of_cell? w _ q1)).trans q1
          replace q2 := (HT.out.c.b.cell (World.block_lt_of_cell? w _ q2)).trans q2
          replace q3 := (HT.out.c.b.cell (World.block_lt_of_cell? w _ q3)).trans q3
          have HTK : Aside0 ((prs l).take (k + 1) = (prs l).take k ++ [(l[k].f0, l[k].f1)]) := ⟨by
            rw [List.take_add_one, List.getElem?_eq_getElem (by simpa [prs] using hk)]
            simp [prs]⟩
          clear hx
          generalize l[k] = x at q0 q1 q2 q3 HTK
          have hb1 : Below wr.heap.size wr (wr.alloc (.cells #[.string x.f0.f0, .string x.f0.f1, .string x.f1.f0, .string x.f1.f1] 49)) := (Below.refl wr.heap.size wr).alloc (Nat.le_refl _) _
          have HT1 := Aside0.mk (HT.out.calm hb1)
          have HLS1 := Aside0.mk (Kd.R_below HLS.out hb1)
          have hbx1 := heap_alloc_new wr (.cells #[.string x.f0.f0, .string x.f0.f1, .string x.f1.f0, .string x.f1.f1] 49)
          clear hb1
          go_wp2
          generalize wr.alloc (.cells #[.string x.f0.f0, .string x.f0.f1, .string x.f1.f0, .string x.f1.f1] 49) = W1 at HT1 HLS1 hbx1 ⊢
          clear q0 q1 q2 q3
          have c0' := cell_of_row W1 wr.heap.size 0 _ _ _ hbx1
          have c1' := cell_of_row W1 wr.heap.size 1 _ _ _ hbx1
          have c2' := cell_of_row W1 wr.heap.size 2 _ _ _ hbx1
          have c3' := cell_of_row W1 wr.heap.size 3 _ _ _ hbx1
          simp only [List.getElem?_toArray, List.getElem?_cons_zero, List.getElem?_cons_succ] at c0' c1' c2' c3'
          have HBX1 := Aside0.mk hbx1
          obtain ⟨e0, e1, _, _⟩ := R_cellsN HT1.out.o (q + 1) hqlen
          rw [HYO.out] at e0 e1
          have hlk : ∀ m, (Instr.lookup 106 (.map (some w2.heap.size)) (.agg #[.string x.f0.f0, .string x.f0.f1]) false).run Tryz.prog (W1.drewN m) = .ok (.int .i64 (farM r x.f0)) (W1.drewN m) := fun m => run_lookup x.f0 (W1.drewN m) w2.heap.size r HT1.out.c.m
          have hs1 : IntKind.i64.wrap ((q : Int) + 1) = (q : Int) + 1 := IntWalk.i64_in _ (by omega)
          have hs2 : 0 ≤ (q : Int) + 1 := by omega
          have hs3 : ((q : Int) + 1).toNat = q + 1 := by omega
          clear hbx1
          by_cases hsame : sameN x.f1 y = true
          · have hxy := (sameN_iff _ _).1 hsame
            rw [hxy] at c2' c3'
            have HXY := Aside0.mk hxy
            clear hxy hsame
            by_cases hv : farM r x.f0 = (q : Int) + 1
            · have hv' : (farM r x.f0 == (q : Int) + 1) = true := by simpa using hv
              have HPN : Aside0 (parents ((prs l).take (k + 1)) (farM r) (q + 1) y = parents ((prs l).take k) (farM r) (q + 1) y ++ [x.f0]) := ⟨by
                rw [HTK.out]
                unfold parents
                rw [List.filter_append, List.map_append]
                congr 1
                have : ((farM r x.f0) = ((q + 1 : Nat) : Int)) := by rw [hv]; rfl
                simp [HXY.out, this]⟩
              clear hv
              go_quiet (fail)
              have hbq : Below W1.heap.size W1 (W1.drewN nq) := pw_below_drewN (Below.refl _ _) nq
              have HT2 := Aside0.mk (HT1.out.calm hbq)
              have HLS2 := Aside0.mk (Kd.R_below HLS1.out hbq)
              have d0 : (W1.drewN nq).cell? ⟨wr.heap.size, 0, none⟩ = some (.string x.f0.f0) := c0'
              have d1 : (W1.drewN nq).cell? ⟨wr.heap.size, 1, none⟩ = some (.string x.f0.f1) := c1'
              clear hbq c0' c1' c2' c3' e0 e1 hlk hs1 hs2 hs3
              generalize W1.drewN nq = W2 at HT2 HLS2 d0 d1 ⊢
              have HPL : Aside0 ((parents ((prs l).take k) (farM r) (q + 1) y).length ≤ 1000) := ⟨by
                unfold parents
                rw [List.length_map]
                refine Nat.le_trans (List.length_filter_le _ _) ?_
                have := List.length_take_le k (prs l)
                omega⟩
              have HLTS : Aside0 (w.heap.size < W2.heap.size ∧ w2.heap.size < W2.heap.size ∧ w3.heap.size < W2.heap.size) := ⟨(Array.getElem?_eq_some_iff.1 HT2.out.c.n).1, (Array.getElem?_eq_some_iff.1 (show W2.heap[w2.heap.size]? = _ from HT2.out.c.m)).1, HT2.out.gs.1⟩
              go_wp2_with (first | ((with_reducible refine gate_builtin (b := .append) (xs := #[.tmp 68, .tmp 71]) rfl ?_); at_builtin; refine Kd.R_append k24 (w0 := w) w.heap.size rfl (.tmp 68) (.tmp 71) 31 24 (.agg #[(.string ⟨#[]⟩), (.string ⟨#[]⟩)]) 32 rfl Tryz.underlying31 info24 rfl (by decide) (by omega) u11 (parents ((prs l).take k) (farM r) (q + 1) y) x.f0 [.string x.f0.f0, .string x.f0.f1] (fun j => (j ≠ w.heap.size ∧ j ≠ w2.heap.size) ∧ j ≠ w3.heap.size) (fun _ => False) rfl rfl ?aP (fun _ hk => hk.elim) ?aF ?aO ?aB ?aS ?aL ?_; (case aP => exact k24_mkM _ _ _ x.f0); (case aF => exact (fun j hj => by have := HLTS.out; omega)); (case aO => exact HLS2.out); (case aB => exact HT2.out.c.b); (case aS => exact HT2.out.c.b.size); (case aL => have := HPL.out; omega); intro v1 w5 ho hb hg hat; have HO5 := Aside0.mk ho; have HT5 := Aside0.mk (HT2.out.grown hg (fun e => (HLS2.out.1 _ e.symm).1.1 rfl) (fun e => (HLS2.out.1 _ e.symm).1.2 rfl) (fun e => (HLS2.out.1 _ e.symm).2 rfl) hb); clear ho hb hg hat))
              go_roundg gg
              case measure => omega
              case rel => exact ⟨k + 1, by omega, by go_num, ⟨by rw [HPN.out]; exact HO5.out⟩, HT5⟩
            · have hv' : (farM r x.f0 == (q : Int) + 1) = false := by simpa using hv
              have HPN : Aside0 (parents ((prs l).take (k + 1)) (farM r) (q + 1) y = parents ((prs l).take k) (farM r) (q + 1) y) := ⟨by
                rw [HTK.out]
                unfold parents
                rw [List.filter_append, List.map_append]
                have : ¬ ((farM r x.f0) = ((q + 1 : Nat) : Int)) := fun e => hv (by rw [e]; rfl)
                simp [this]
                exact fun _ => hv⟩
              clear hv
              go_quiet (fail)
              have hbq : Below W1.heap.size W1 (W1.drewN nq) := pw_below_drewN (Below.refl _ _) nq
              have HT2 := Aside0.mk (HT1.out.calm hbq)
              have HLS2 := Aside0.mk (Kd.R_below HLS1.out hbq)
              clear hbq c0' c1' c2' c3' e0 e1 hlk hs1 hs2 hs3
              generalize W1.drewN nq = W2 at HT2 HLS2 ⊢
              go_wp2
              go_roundg gg
              case measure => omega
              case rel => exact ⟨k + 1, by omega, by go_num, ⟨by rw [HPN.out]; exact HLS2.out⟩, HT2⟩
          · have hne : ¬ x.f1 = y := fun e => hsame ((sameN_iff _ _).2 e)
            have HPN : Aside0 (parents ((prs l).take (k + 1)) (farM r) (q + 1) y = parents ((prs l).take k) (farM r) (q + 1) y) := ⟨by
              rw [HTK.out]
              unfold parents
              rw [List.filter_append, List.map_append]
              simp [hne]⟩
            have hsf : sameN x.f1 y = false := by simpa using hsame
            clear hne hsame
            unfold sameN at hsf
            cases h0 : (x.f1.f0.toList == y.f0.toList)
            · clear hsf
              go_quiet (fail)
              have hbq : Below W1.heap.size W1 (W1.drewN nq) := pw_below_drewN (Below.refl _ _) nq
              have HT2 := Aside0.mk (HT1.out.calm hbq)
              have HLS2 := Aside0.mk (Kd.R_below HLS1.out hbq)
              clear hbq c0' c1' c2' c3' e0 e1 hlk hs1 hs2 hs3
              generalize W1.drewN nq = W2 at HT2 HLS2 ⊢
              go_wp2
              go_roundg gg
              case measure => omega
              case rel => exact ⟨k + 1, by omega, by go_num, ⟨by rw [HPN.out]; exact HLS2.out⟩, HT2⟩
            · rw [h0, Bool.true_and] at hsf
              go_quiet (fail)
              have hbq : Below W1.heap.size W1 (W1.drewN nq) := pw_below_drewN (Below.refl _ _) nq
              have HT2 := Aside0.mk (HT1.out.calm hbq)
              have HLS2 := Aside0.mk (Kd.R_below HLS1.out hbq)
              clear hbq c0' c1' c2' c3' e0 e1 hlk hs1 hs2 hs3
              generalize W1.drewN nq = W2 at HT2 HLS2 ⊢
              go_wp2
              go_roundg gg
              case measure => omega
              case rel => exact ⟨k + 1, by omega, by go_num, ⟨by rw [HPN.out]; exact HLS2.out⟩, HT2⟩
theorem levels_len {l : List SNeed} {lv : List (List SNode)} {r : DMap} (t : Gw.Told ndC goodN (prs l) zN lv r) : lv.length ≤ l.length := by
  have h1 : ∀ k, k ≤ lv.length → ∃ ys : List SNode, ys.length = k ∧ ys.Nodup ∧ (∀ y ∈ ys, ∃ i L, i < k ∧ lv[i]? = some L ∧ y ∈ L) := by
    intro k
    induction k with
    | zero => intro _; exact ⟨[], rfl, List.nodup_nil, by simp⟩
    | succ k ih =>
      intro hk
      obtain ⟨ys, e1, e2, e3⟩ := ih (by omega)
      obtain ⟨_, hne, _⟩ := t.lev.lvl lv[k] (List.getElem_mem _)
      obtain ⟨y, hy⟩ := List.exists_mem_of_ne_nil _ hne
      refine ⟨y :: ys, by simp [e1], ?_, ?_⟩
      · rw [List.nodup_cons]
        refine ⟨fun hm => ?_, e2⟩
        obtain ⟨i, L, hi, hL, hyL⟩ := e3 y hm
        have := t.lev.one i k L lv[k] y hL (List.getElem?_eq_getElem (by omega)) hyL hy
        omega
      · intro z hz
        rcases List.mem_cons.1 hz with rfl | hz
        · exact ⟨k, lv[k], by omega, List.getElem?_eq_getElem (by omega), hy⟩
        · obtain ⟨i, L, hi, hL, hyL⟩ := e3 z hz
          exact ⟨i, L, by omega, hL, hyL⟩
  obtain ⟨ys, e1, e2, e3⟩ := h1 lv.length (Nat.le_refl _)
  have h2 := nodup_len ys ((prs l).map Prod.snd) e2 (fun y hy => by
    obtain ⟨i, L, _, hL, hyL⟩ := e3 y hy
    cases i with
    | zero =>
      obtain ⟨x, hx, _, e⟩ := t.lev.from0 L hL y hyL
      exact List.mem_map.2 ⟨x, hx, e⟩
    | succ i =>
      have hlt : i + 1 < lv.length := (List.getElem?_eq_some_iff.1 hL).1
      obtain ⟨x, hx, _, e⟩ := t.lev.fromS i (lv[i]'(by omega)) L (List.getElem?_eq_getElem (by omega)) hL y hyL
      exact List.mem_map.2 ⟨x, hx, e⟩)
  rw [e1] at h2
  simpa [prs] using h2
def why_Chain.f (l : List SNeed) (p v : ByteArray) : Option (List SNode × Int) :=
  if (l.all okNeed && okNode ⟨p, v⟩ && decide (l.length ≤ 900)) = true then
    if (l.any badNeed || !mayN ⟨p, v⟩) = true then some ([], 1)
    else (outerD l (l.length + 2) 1 [zN] []).bind fun r => match lookM r ⟨p, v⟩ with
      | none => some ([], 11)
      | some d => (pChain ndC (prs l) (farM r) (d.toNat - 1) ⟨p, v⟩).map fun c => (c, 0)
  else none
theorem far_told {l : List SNeed} {lv : List (List SNode)} {r : DMap} (t : Gw.Told ndC goodN (prs l) zN lv r) (y : SNode) : farM r y = (depthOf lv y : Int) := by
  unfold farM
  rw [lookM_eq, t.far]
theorem why_Chain.calls (A0 : Option Addr) (c0 : Nat) (l0 : List SNeed) (a1_0 : ByteArray) (a1_1 : ByteArray) (r0 : List SNode) (r1 : Int) (w : World) (hr0 : Kd.C k49 w A0 l0.length l0) (hc0 : l0.length ≤ c0) (h : why_Chain.f l0 a1_0 a1_1 = some (r0, r1)) :
    Calls Tryz.prog 18 #[.slice A0 l0.length c0, .agg #[.string a1_0, .string a1_1]] w fun e w' => ∃ v0_ : Value, e = .returned (.tuple #[v0_, .int .i64 r1]) ∧ Kd.R k24 24 w' w.heap.size (fun _ => True) v0_ r0 ∧ Below w.heap.size w w' := by
  unfold why_Chain.f at h
  split at h
  case isFalse => cases h
  rename_i hc
  simp only [Bool.and_eq_true, decide_eq_true_eq] at hc
  have hok : ∀ x ∈ l0, okNeed x = true := List.all_eq_true.1 hc.1.1
  cases hb : l0.any badNeed with
  | true =>
    rw [hb] at h
    simp only [Bool.true_or, if_true] at h
    have h := Option.some.inj h
    injection h with e1 e2
    subst e1 e2
    exact chain_bad1 A0 c0 l0 ⟨a1_0, a1_1⟩ w hr0 hc0 hok hb
  | false =>
    rw [hb] at h
    cases hm : mayN ⟨a1_0, a1_1⟩ with
    | false =>
      rw [hm] at h
      simp only [Bool.false_or, Bool.not_false, if_true] at h
      have h := Option.some.inj h
      injection h with e1 e2
      subst e1 e2
      exact chain_bad2 A0 c0 l0 ⟨a1_0, a1_1⟩ w hr0 hc0 hok hc.1.2 hb hm
    | true =>
      rw [hm] at h
      simp only [Bool.false_or, Bool.not_true, Bool.false_eq_true, if_false] at h
      obtain ⟨r, hr, h⟩ := Option.bind_eq_some_iff.1 h
      obtain ⟨lv, r', h1, h2, t⟩ := told_needs hok hb
      rw [hr] at h1
      have h1 := Option.some.inj h1
      subst h1
      have hlk := lookM_eq r ⟨a1_0, a1_1⟩
      rw [t.look] at hlk
      have hlen : lv.length ≤ l0.length := levels_len t
      split at h
      · rename_i hn
        have h := Option.some.inj h
        injection h with e1 e2
        subst e1 e2
        exact chain_none A0 c0 l0 ⟨a1_0, a1_1⟩ r w hr0 hc0 (by omega) hok hc.1.2 hb hm hr hn
      · rename_i d hd
        obtain ⟨cs, hcs, h⟩ := Option.map_eq_some_iff.1 h
        injection h with e1 e2
        subst e1 e2
        rw [hd] at hlk
        have hd0 : depthOf lv ⟨a1_0, a1_1⟩ ≠ 0 := by
          intro e
          rw [if_pos e] at hlk
          cases hlk
        rw [if_neg hd0] at hlk
        have hdv := Option.some.inj hlk
        obtain ⟨dd, hdd⟩ : ∃ dd, depthOf lv ⟨a1_0, a1_1⟩ = dd + 1 := ⟨depthOf lv ⟨a1_0, a1_1⟩ - 1, by omega⟩
        obtain ⟨L, hL, _⟩ := depthOf_some lv _ dd hdd
        have hlt : dd < lv.length := (List.getElem?_eq_some_iff.1 hL).1
        have hdt : d = (dd : Int) + 1 := by rw [hdv, hdd]; rfl
        subst hdt
        have e3 : ((dd : Int) + 1).toNat - 1 = dd := by omega
        rw [e3] at hcs
        refine chain_ok A0 c0 l0 ⟨a1_0, a1_1⟩ r dd cs w hr0 hc0 (by omega) hok hc.1.2 hb hm hr hd (by omega) hcs (fun i y x hx => ?_)
        unfold parents at hx
        obtain ⟨q, hq, rfl⟩ := List.mem_map.1 hx
        have hq2 := (List.mem_filter.1 hq).2
        simp only [Bool.and_eq_true, decide_eq_true_eq] at hq2
        have hf := hq2.2
        rw [far_told t] at hf
        exact t.good (by omega)
end Go.Proofs.YtjfcmkddeglghaaGreatDoor.G
end
section
namespace Go.Proofs.YtjfcmkddeglghaaGreatDoor.G
open Go.RowKit Gw Go.Proofs.YtjfcmkddeglghaaGreatDoorW.PrintWords Go.Proofs.YtjfcmkddeglghaaGreatDoorW.PrintLast Go.Proofs.YtjfcmkddeglghaaGreatDoorW.PrintMore
set_option linter.unusedVariables false
set_option linter.unusedSimpArgs false
def v100 : ByteArray := ⟨#[118, 49, 46, 48, 46, 48]⟩
def nA : SNode := ⟨⟨#[97]⟩, v100⟩
def nB : SNode := ⟨⟨#[98]⟩, v100⟩
def nC : SNode := ⟨⟨#[99]⟩, v100⟩
def lA1 : List SNeed := [⟨zN, nC⟩, ⟨nC, nB⟩, ⟨zN, nA⟩, ⟨nA, nB⟩]
def lA2 : List SNeed := [⟨zN, nA⟩]
theorem chainA1 : why_Chain.f lA1 nB.f0 nB.f1 = some ([nA, nB], 0) := by decide +kernel
theorem chainA2 : why_Chain.f lA2 nB.f0 nB.f1 = some ([], 11) := by decide +kernel
def w19_awake.f : Option Bool := some true
def encNeed (x : SNeed) : List Value := [.string x.f0.f0, .string x.f0.f1, .string x.f1.f0, .string x.f1.f1]
theorem C_litNeed (W : World) (xs : List SNeed) (hm : xs.length ≤ 1000) : Kd.C k49 (W.alloc (.cells (xs.flatMap encNeed).toArray 49)) (some ⟨W.heap.size, 0, none⟩) xs.length xs := by
  have h1 := R_lit0 k49 encNeed (fun w base ok x => k49_mkM w base ok x) 49 W W.heap.size xs (fun _ => True) (Nat.le_refl _) (by omega) trivial
  exact (Kd.R_reads' h1).2.2
theorem chain_at (l : List SNeed) (n : SNode) (r : List SNode) (z : Int) (h : why_Chain.f l n.f0 n.f1 = some (r, z)) (hm : l.length ≤ 1000) (W : World) :
    Calls Tryz.prog 18 #[.slice (some ⟨W.heap.size, 0, none⟩) l.length l.length, .agg #[.string n.f0, .string n.f1]] (W.alloc (.cells (l.flatMap encNeed).toArray 49)) fun e w' => ∃ A c, e = .returned (.tuple #[.slice A r.length c, .int .i64 z]) ∧ Kd.C k24 w' A r.length r ∧ Below (W.heap.size + 1) (W.alloc (.cells (l.flatMap encNeed).toArray 49)) w' := by
  refine (why_Chain.calls _ _ l n.f0 n.f1 r z _ (C_litNeed W l hm) (Nat.le_refl _) h).mono ?_
  rintro e w' ⟨v, rfl, ho, hb⟩
  obtain ⟨A, c, rfl, _, hC⟩ := Kd.R_reads ho
  rw [World.size_alloc] at hb
  exact ⟨A, c, rfl, hC, hb⟩
set_option maxHeartbeats 1000000 in
set_option maxRecDepth 1000000 in
theorem w19_awake.calls (r : Bool) (w : World) (h : w19_awake.f = some r) :
    Calls Tryz.prog 20 #[] w fun e w' => e = .returned (.bool r) ∧ Below w.heap.size w w' := by
  obtain rfl := Option.some.inj h
  clear h
  have hc1 := fun W => chain_at lA1 nB [nA, nB] 0 chainA1 (by decide) W
  have hc2 := fun W => chain_at lA2 nB [] 11 chainA2 (by decide) W
  have HC1 := Aside0.mk hc1
  have HC2 := Aside0.mk hc2
  clear hc1 hc2
  go_enter Tryz.func20, Tryz.ntmps20
  go_wp2_with fail
  have hc1 := HC1.out (((w.alloc (nBox nA)).alloc (nBox nB)).alloc (nBox nC))
  have hz : (((w.alloc (nBox nA)).alloc (nBox nB)).alloc (nBox nC)).heap.size = w.heap.size + 1 + 1 + 1 := by simp [World.size_alloc]
  rw [hz] at hc1
  have hA0 : ((((w.alloc (nBox nA)).alloc (nBox nB)).alloc (nBox nC)).alloc (.cells (lA1.flatMap encNeed).toArray 49)).heap[w.heap.size]? = some (nBox nA) := by
    rw [Below.heap_alloc _ _ _ (by simp; omega), Below.heap_alloc _ _ _ (by simp; omega), Below.heap_alloc _ _ _ (by simp)]
    exact heap_alloc_new _ _
  have hB0 : ((((w.alloc (nBox nA)).alloc (nBox nB)).alloc (nBox nC)).alloc (.cells (lA1.flatMap encNeed).toArray 49)).heap[w.heap.size + 1]? = some (nBox nB) := by
    rw [Below.heap_alloc _ _ _ (by simp), Below.heap_alloc _ _ _ (by simp)]
    have := heap_alloc_new (w.alloc (nBox nA)) (nBox nB)
    simpa using this
  have hW0 : Below w.heap.size w ((((w.alloc (nBox nA)).alloc (nBox nB)).alloc (nBox nC)).alloc (.cells (lA1.flatMap encNeed).toArray 49)) := ((((Below.refl _ _).alloc (Nat.le_refl _) _).alloc (by simp) _).alloc (by simp; omega) _).alloc (by simp; omega) _
  refine hc1.mono ?_
  rintro e w1 ⟨A, c, rfl, hC, hb⟩
  have HA1 := Aside0.mk ((hb.block _ (by omega)).trans hA0)
  have HB1 := Aside0.mk ((hb.block _ (by omega)).trans hB0)
  have HW1 := Aside0.mk (hW0.trans (hb.mono (by omega)))
  have HCC := Aside0.mk hC
  have hlt : w.heap.size + 1 < w1.heap.size := (Array.getElem?_eq_some_iff.1 HB1.out).1
  clear hc1 hz hA0 hB0 hW0 hC hb
  have a0 := cell_of_row w1 w.heap.size 0 _ _ _ HA1.out
  have a1 := cell_of_row w1 w.heap.size 1 _ _ _ HA1.out
  have b0 := cell_of_row w1 (w.heap.size + 1) 0 _ _ _ HB1.out
  have b1 := cell_of_row w1 (w.heap.size + 1) 1 _ _ _ HB1.out
  simp only [List.getElem?_toArray, List.getElem?_cons_zero, List.getElem?_cons_succ, nA, nB, v100] at a0 a1 b0 b1
  go_wp2_with fail
  have hc2 := HC2.out w1
  refine hc2.mono ?_
  rintro e w2 ⟨A2, c2, rfl, hC2, hb⟩
  have hb2 : Below w1.heap.size w1 w2 := (((Below.refl _ _).alloc (Nat.le_refl _) _).trans (hb.mono (by omega)))
  have HW2 := Aside0.mk (below_then HW1.out HW1.out.size hb2)
  have hC1 := Kd.C_below HCC.out hb2
  replace a0 := (hb2.cell (World.block_lt_of_cell? w1 _ a0)).trans a0
  replace a1 := (hb2.cell (World.block_lt_of_cell? w1 _ a1)).trans a1
  replace b0 := (hb2.cell (World.block_lt_of_cell? w1 _ b0)).trans b0
  replace b1 := (hb2.cell (World.block_lt_of_cell? w1 _ b1)).trans b1
  obtain ⟨ad, ea, p0, p1⟩ := at_T24 hC1 (0 : Int) (by decide) (by decide)
  cases ea
  obtain ⟨ad', ea, p2, p3⟩ := at_T24 hC1 (1 : Int) (by decide) (by decide)
  cases ea
  have e0 : rd_T24 [nA, nB] (0 : Int) = nA := rfl
  have e1 : rd_T24 [nA, nB] (1 : Int) = nB := rfl
  rw [e0] at p0 p1
  rw [e1] at p2 p3
  simp only [nA, nB, v100] at p0 p1 p2 p3
  replace p0 : w2.cell? ad = some (.string ⟨#[97]⟩) := p0
  replace p1 : w2.cell? ⟨ad.block, ad.off + 1, none⟩ = some (.string ⟨#[118, 49, 46, 48, 46, 48]⟩) := p1
  replace p2 : w2.cell? ⟨ad.block, ad.off + 2, none⟩ = some (.string ⟨#[98]⟩) := p2
  replace p3 : w2.cell? ⟨ad.block, ad.off + 2 + 1, none⟩ = some (.string ⟨#[118, 49, 46, 48, 46, 48]⟩) := p3
  clear hc2 hC2 hb hb2 hC1 e0 e1 HCC HC1 HC2 HA1 HB1 HW1
  go_wp2
  go_quiet (fail)
  go_wp2
  go_ret
  exact ⟨rfl, pw_below_drewN HW2.out _⟩
end Go.Proofs.YtjfcmkddeglghaaGreatDoor.G
end
