/- For every list of needs and every node WhyTells returns true, as the card says: how far nodes are away, and the chain to a node, are as the document says, or the error is. Condition: when the call begins, utf8.acceptRanges and utf8.first hold what Go's own text lays. (part 6 of its proof) -/
import Derived.Calls
import Derived.Deep.LoopGhost
import Derived.Laws.Cover1
import Derived.Maps.Own
import Derived.Maps.RangeRun
import Derived.RunT
import Derived.Shelf.SlSortCmp.NoneTotal
import Derived.Shelf.SlSortCmp.WholeK
import Derived.Test.YtjfcmkddeglghaaGreatDoorKa1
import Derived.Test.YtjfcmkddeglghaaGreatDoorKa2
import Derived.Test.YtjfcmkddeglghaaGreatDoorKa3
import Derived.Test.YtjfcmkddeglghaaGreatDoorKa4
import Derived.Test.YtjfcmkddeglghaaGreatDoorKa5
import Derived.Test.YtjfcmkddeglghaaGreatDoorKa6
import Derived.Test.YtjfcmkddeglghaaGreatDoorKa61
section
namespace Go.Proofs.YtjfcmkddeglghaaGreatDoor.G
open Go.RowKit Gw Go.Proofs.YtjfcmkddeglghaaGreatDoorW.PrintWords Go.Proofs.YtjfcmkddeglghaaGreatDoorW.PrintLast
open Go.Sort (putRow putCells mapBlock onCells HoldsK putRowK flatK size_flatK get_flatK grow PermIn SortedIn SWO Holds)
set_option linter.unusedVariables false
set_option linter.unusedSimpArgs false
structure FlatK {α : Type} (d : Kd α) (enc : α → List Value) : Prop where
  mk' : ∀ w base ok x, d.M w base ok x (enc x)
  inv : ∀ w base ok x cs, d.M w base ok x cs → cs = enc x
  pos : 0 < d.sz
theorem FlatK.len {α : Type} {d : Kd α} {enc : α → List Value} (F : FlatK d enc) (w : World) (x : α) : (enc x).length = d.sz := d.K_len (d.K_of_M (F.mk' w 0 (fun _ => True) x))
theorem FlatK.one {α : Type} {d : Kd α} {enc : α → List Value} (F : FlatK d enc) (w : World) (x : α) : ∀ v ∈ enc x, v.oneCell' = true := d.K_one (d.K_of_M (F.mk' w 0 (fun _ => True) x))
section
variable {α β : Type} [Inhabited β] {d : Kd α} {enc : α → List Value} {f : β → α} {e base : Nat} {w : World} {ok : Nat → Prop} {g n cap : Nat}
theorem flat_get (F : FlatK d enc) (w : World) (D : Array β) (t : Nat) (ht : t < D.size * d.sz) :
    (flatK (fun b => enc (f b)) d.sz D)[t]! = (enc (f D[t / d.sz]!))[t % d.sz]! := get_flatK _ _ _ _ ht
theorem flat_reps (F : FlatK d enc) (w : World) (D : Array β) : Reps (fun x c => c = enc x) d.sz (D.toList.map f) (flatK (fun b => enc (f b)) d.sz D).toList := by
  refine ⟨by simp, fun j p hj => ?_⟩
  have hp := F.pos
  obtain ⟨hjl, hjp⟩ := List.getElem?_eq_some_iff.1 hj
  simp only [List.length_map, Array.length_toList] at hjl
  have hle : (j + 1) * d.sz ≤ D.size * d.sz := Nat.mul_le_mul_right _ hjl
  rw [Nat.succ_mul] at hle
  apply List.ext_getElem
  · rw [F.len w]
    simp
    omega
  · intro i h1 h2
    have hi : i < d.sz := by rw [F.len w] at h2; exact h2
    have hlt : j * d.sz + i < D.size * d.sz := by omega
    have e1 := flat_get (f := f) F w D (j * d.sz + i) hlt
    have e2 : (j * d.sz + i) / d.sz = j := by
      rw [Nat.mul_comm, Nat.mul_add_div hp, Nat.div_eq_of_lt hi]
      rfl
    have e3 : (j * d.sz + i) % d.sz = i := by rw [Nat.mul_comm, Nat.mul_add_mod, Nat.mod_eq_of_lt hi]
    rw [e2, e3] at e1
    rw [getElem!_pos _ _ (by simpa using hlt)] at e1
    have e4 : D[j]! = D[j] := getElem!_pos D j hjl
    have e5 : f D[j] = p := by simpa using hjp
    rw [e4, e5, getElem!_pos (enc p) i h2] at e1
    simp only [List.getElem_take, List.getElem_drop, Array.getElem_toList]
    exact e1
theorem R_reps (F : FlatK d enc) {xs : List α} (h : d.R e w base ok (.slice (some ⟨g, 0, none⟩) n cap) xs) : n = xs.length ∧ base ≤ g ∧ ok g ∧ n ≤ cap ∧ cap ≤ maxLen ∧ ∃ cur, w.heap[g]? = some (.cells cur e (0, 0)) ∧ cur.size = cap * d.sz ∧ Reps (fun x c => c = enc x) d.sz xs (cur.toList.take (n * d.sz)) := by
  obtain ⟨h0, inner, ho, hr⟩ := h
  obtain ⟨hl, ho⟩ := ho
  rcases ho with ⟨hv, _⟩ | ⟨g', cap', cur, hv, hb, hh, h1, h2, h3, h4⟩
  · cases hv
  · injection hv with hv1 hv2 hv3
    injection hv1 with hv1
    injection hv1 with hv1
    subst hv1 hv3
    have hn : n = xs.length := hv2
    subst hn
    exact ⟨rfl, hb, h0 _ rfl, h1, h2, cur, hh, h3, by rw [h4]; exact hr.imp_ (fun p c hp => F.inv _ _ _ _ _ hp)⟩
theorem R_holds (F : FlatK d enc) (D : Array β) (h : d.R e w base ok (.slice (some ⟨g, 0, none⟩) n cap) (D.toList.map f)) : n = D.size ∧ base ≤ g ∧ g < w.heap.size ∧ HoldsK (fun b => enc (f b)) d.sz w g 0 D := by
  obtain ⟨hn, hb, _, h1, h2, cur, hh, h3, hr⟩ := R_reps F h
  have hn' : n = D.size := by simpa using hn
  subst hn'
  refine ⟨rfl, hb, (Array.getElem?_eq_some_iff.1 hh).1, fun t ht => ?_⟩
  have hp := F.pos
  rw [size_flatK] at ht
  refine ⟨?_, by simp [World.frozen?, hh]⟩
  simp only [World.cell?, hh, Nat.zero_add, Option.isSome_none, Bool.false_eq_true, if_false]
  have hj : t / d.sz < D.size := Nat.div_lt_of_lt_mul (by rw [Nat.mul_comm]; exact ht)
  have hm : t % d.sz < d.sz := Nat.mod_lt _ hp
  have hq := hr.2 (t / d.sz) (f D[t / d.sz]!) (by
    rw [List.getElem?_map, Array.getElem?_toList, Array.getElem?_eq_getElem hj, getElem!_pos D _ hj]
    rfl)
  have e1 : t = t / d.sz * d.sz + t % d.sz := by rw [Nat.mul_comm]; exact (Nat.div_add_mod t d.sz).symm
  have e2 := congrArg (fun l => l[t % d.sz]?) hq
  simp only [List.getElem?_take_of_lt hm, List.getElem?_drop] at e2
  rw [← e1, List.getElem?_take_of_lt ht] at e2
  rw [flat_get F w D t ht]
  have hlen : t % d.sz < (enc (f D[t / d.sz]!)).length := by rw [F.len w]; exact hm
  rw [List.getElem?_eq_getElem hlen] at e2
  rw [← Array.getElem?_toList, e2]
  exact congrArg some (getElem!_pos (enc (f D[t / d.sz]!)) (t % d.sz) hlen).symm
theorem heap_sortedK {cur : Array Value} {fr : Nat × Nat} (encK : β → List Value) (k m : Nat) (D : Array β) (os : Array Obj) (hb : w.heap[g]? = some (.cells cur e fr)) :
    (sortWorldK encK k w g 0 m D os).heap[g]? = some (.cells (putCells id 0 (flatK encK k D) cur) e fr) := by
  have hg : g < w.heap.size := (Array.getElem?_eq_some_iff.1 hb).1
  unfold sortWorldK putRowK
  rw [Go.Sort.heap_grow_old _ _ (by simpa using hg)]
  simp [putRow, mapBlock, Go.Sort.ahead, Array.getElem?_modify, hb, onCells]
theorem grownBy_sortedK (encK : β → List Value) (k m : Nat) (D : Array β) (os : Array Obj) : w.grownBy (sortWorldK encK k w g 0 m D os) (some g) := by
  refine ⟨rfl, rfl, rfl, ?_, fun j hj hne => ?_⟩
  · unfold sortWorldK putRowK
    simp
  · unfold sortWorldK putRowK
    rw [Go.Sort.heap_grow_old _ _ (by simpa using hj)]
    have : g ≠ j := fun e => hne (by rw [e])
    simp [putRow, mapBlock, Go.Sort.ahead, Array.getElem?_modify, this]
theorem R_sorted (F : FlatK d enc) {xs : List α} (D : Array β) (m : Nat) (os : Array Obj) (h : d.R e w base ok (.slice (some ⟨g, 0, none⟩) n cap) xs) (hs : D.size = xs.length) :
    d.R e (sortWorldK (fun b => enc (f b)) d.sz w g 0 m D os) base ok (.slice (some ⟨g, 0, none⟩) n cap) (D.toList.map f) := by
  obtain ⟨hn, hb, hok, h1, h2, cur, hh, h3, hr⟩ := R_reps F h
  subst hn
  have hp := F.pos
  have hlen : (D.toList.map f).length = xs.length := by simpa using hs
  have hmul : xs.length * d.sz ≤ cap * d.sz := Nat.mul_le_mul_right _ h1
  have hin : ((putCells id 0 (flatK (fun b => enc (f b)) d.sz D) cur).toList.take (xs.length * d.sz)) = (flatK (fun b => enc (f b)) d.sz D).toList := by
    apply List.ext_getElem
    · have q1 : (putCells id 0 (flatK (fun b => enc (f b)) d.sz D) cur).toList.length = cap * d.sz := by rw [Array.length_toList]; simp only [putCells, Array.size_mapIdx, h3]
      have q2 : (flatK (fun b => enc (f b)) d.sz D).toList.length = xs.length * d.sz := by rw [Array.length_toList, size_flatK, hs]
      rw [List.length_take, q1, q2]
      omega
    · intro t q1 q2
      have q3 : t < D.size * d.sz := by simpa using q2
      simp only [List.getElem_take, Array.getElem_toList]
      simp only [putCells, Array.getElem_mapIdx, Nat.zero_le, Nat.zero_add, true_and, size_flatK, q3, if_true, Nat.sub_zero, id_eq]
      rw [getElem!_pos _ _ (by simpa using q3)]
  refine ⟨fun k hk => ?_, (flatK (fun b => enc (f b)) d.sz D).toList, ?_, ?_⟩
  · have : g = k := by simpa [Value.ownBlock] using hk
    subst this
    exact hok
  · refine ⟨by simp, .inr ⟨g, cap, putCells id 0 (flatK (fun b => enc (f b)) d.sz D) cur, by rw [hlen], hb, heap_sortedK _ _ _ _ _ hh, by rw [hlen]; exact h1, h2, by simp [putCells, h3], ?_⟩⟩
    rw [hlen]
    exact hin
  · refine (flat_reps (f := f) F w D).imp_ (fun p c hc => ?_)
    subst hc
    exact F.mk' _ _ _ p
end
theorem flatN : FlatK k24 (fun x : S24 => [.string x.f0, .string x.f1]) := ⟨fun w base ok x => k24_mkM w base ok x, fun w base ok x cs h => k24_open (Kd.K_of_M _ h), by decide⟩
theorem flatD : FlatK k46 (fun x : S46 => [.string x.f0.f0, .string x.f0.f1, .int .i64 x.f1]) := ⟨fun w base ok x => k46_mkM w base ok x, fun w base ok x cs h => k46_open (Kd.K_of_M _ h), by decide⟩
theorem grow_of_below {W w' : World} (hb : Below W.heap.size W w') (hd : W.drawn ≤ w'.drawn) : ∃ q os, w' = grow (W.drewN q) os := by
  refine ⟨w'.drawn - W.drawn, w'.heap.extract W.heap.size w'.heap.size, ?_⟩
  obtain ⟨H, t, dr, o, out⟩ := w'
  obtain ⟨H0, t0, dr0, o0, out0⟩ := W
  have e1 : t = t0 := hb.tape
  have e2 : o = o0 := hb.os
  have e3 : out = out0 := hb.output
  subst e1 e2 e3
  have hs : H0.size ≤ H.size := hb.size
  have hd' : dr0 ≤ dr := hd
  have hh : H = H0 ++ H.extract H0.size H.size := by
    apply Array.ext_getElem?
    intro i
    by_cases hi : i < H0.size
    · rw [Array.getElem?_append_left hi]
      exact hb.block i hi
    · rw [Array.getElem?_append_right (by omega), Array.getElem?_extract]
      by_cases h2 : i < H.size
      · rw [if_pos (by omega)]
        congr 1
        omega
      · rw [if_neg (by omega), Array.getElem?_eq_none (by omega)]
  show (⟨H, t, dr, o, out⟩ : World) = ⟨H0 ++ H.extract H0.size H.size, t, dr0 + (dr - dr0), o, out⟩
  rw [← hh, Nat.add_sub_cancel' hd']
end Go.Proofs.YtjfcmkddeglghaaGreatDoor.G
end
section
namespace Go.Proofs.YtjfcmkddeglghaaGreatDoor.G
open Go.RowKit Go.Proofs.YtjfcmkddeglghaaGreatDoorW.PrintWords Go.Proofs.YtjfcmkddeglghaaGreatDoorW.PrintLast
set_option linter.unusedVariables false
set_option linter.unusedSimpArgs false
theorem cmp_isNaN_string.exact (a0 : ByteArray) (w : World) :
    Calls Tryz.prog 177 #[.string a0] w fun e w' => e = .returned (.bool false) ∧ w' = w := by
  go_enter Tryz.func177, Tryz.ntmps177
  go_wp2
  go_ret
  exact ⟨by first | rfl | simp, rfl⟩
def cmp_Compare_string.f (a0 : ByteArray) (a1 : ByteArray) : Option (Int) := some (if (Op.bytesLess a0.toList a1.toList) = true then (-1) else (if (a0.toList == a1.toList) = true then 0 else 1))
set_option maxHeartbeats 8000000 in
set_option maxRecDepth 100000 in
theorem cmp_Compare_string.calls (a0 : ByteArray) (a1 : ByteArray) (r : Int) (w : World) (h : cmp_Compare_string.f a0 a1 = some r) :
    Calls Tryz.prog 156 #[.string a0, .string a1] w fun e w' => e = .returned (.int .i64 r) ∧ Drawn0 w w' := by
  obtain rfl := Option.some.inj h
  clear h
  cases c8b0 : Op.bytesLess a0.toList a1.toList
  · cases c9b0 : a0.toList == a1.toList
    · go_enter Tryz.func156, Tryz.ntmps156
      go_wp2_with (go_at_call 177; refine (cmp_isNaN_string.exact _ _).mono ?_; rintro e w' ⟨rfl, hw⟩; rw [hw])
      go_ret
      exact ⟨rfl, Drawn0.refl _⟩
    · go_enter Tryz.func156, Tryz.ntmps156
      go_wp2_with (go_at_call 177; refine (cmp_isNaN_string.exact _ _).mono ?_; rintro e w' ⟨rfl, hw⟩; rw [hw])
      go_ret
      exact ⟨rfl, Drawn0.refl _⟩
  · go_enter Tryz.func156, Tryz.ntmps156
    go_wp2_with (go_at_call 177; refine (cmp_isNaN_string.exact _ _).mono ?_; rintro e w' ⟨rfl, hw⟩; rw [hw])
    go_ret
    exact ⟨rfl, Drawn0.refl _⟩
end Go.Proofs.YtjfcmkddeglghaaGreatDoor.G
end
section
namespace Go.Proofs.YtjfcmkddeglghaaGreatDoor.G
open Go.RowKit Go.Proofs.YtjfcmkddeglghaaGreatDoorW.PrintWords Go.Proofs.YtjfcmkddeglghaaGreatDoorW.PrintLast Go.Proofs.YtjfcmkddeglghaaGreatDoorW.PrintMore
attribute [local go_sem] max2_int min2_int max_two min_two max_three min_three max_four min_four
set_option linter.unusedVariables false
set_option linter.unusedSimpArgs false
def octet_Cmp.f (a0 : ByteArray) (a1 : ByteArray) : Option (Int) := (cmp_Compare_string.f a0 a1).bind fun t168 => (some t168)
set_option maxHeartbeats 8000000 in
set_option maxRecDepth 100000 in
theorem octet_Cmp.calls (a0 : ByteArray) (a1 : ByteArray) (r : Int) (w : World) (h : octet_Cmp.f a0 a1 = some r) :
  Calls Tryz.prog 122 #[.string a0, .string a1] w fun e w' => e = .returned (.int .i64 r) ∧ Drawn0 w w' := by
 have H : ((cmp_Compare_string.f a0 a1).bind fun t168 => (some t168)) = some r := h
 clear h
 obtain ⟨t168, A3, H⟩ := bo H
 obtain rfl := Option.some.inj H
 go_enter Tryz.func122, Tryz.ntmps122
 go_wp2_with (first | ((with_reducible refine gate_callee (f := 156) rfl ?_); refine gl 7 Tryz.func156 #[.string a0, .string a1] ?_; (with_reducible refine (cmp_Compare_string.calls a0 a1 t168 _ A3.out).mono ?_); rintro e w' ⟨rfl, ⟨nd, rfl⟩⟩; refine ⟨_, rfl, ?_⟩))
 go_ret
 exact ⟨by first | rfl | (simp; done) | (simp [*]; done), by repeat (first | exact Drawn0.refl _ | apply Drawn0.step)⟩
end Go.Proofs.YtjfcmkddeglghaaGreatDoor.G
end
section
namespace Go.Proofs.YtjfcmkddeglghaaGreatDoor.G
open Go.RowKit Go.Proofs.YtjfcmkddeglghaaGreatDoorW.PrintWords Go.Proofs.YtjfcmkddeglghaaGreatDoorW.PrintLast Go.Proofs.YtjfcmkddeglghaaGreatDoorW.PrintMore
attribute [local go_sem] max2_int min2_int max_two min_two max_three min_three max_four min_four
set_option linter.unusedVariables false
set_option linter.unusedSimpArgs false
def cmp_Or_int.l0 : Nat → Int → List Int → Int → Int → Option (Int)
 | 0, _, _, _, _ => none
 | k + 1, x3, x6, x7, x8 => if x8 < x7 then (if 0 ≤ x8 then (if x8 < (x6.length : Int) then (if (rd x6 x8) = x3 then (cmp_Or_int.l0 k x3 x6 x7 (wrap64 (x8 + 1))) else (some (rd x6 x8))) else (none)) else (none)) else (some x3)
def cmp_Or_int.f (k : Nat) (l0 : List Int) : Option (Int) := cmp_Or_int.l0 k 0 l0 (l0.length : Int) 0
theorem cmp_Or_int.mono_l : ∀ k, (∀ y0 y1 y2 y3, LeO (cmp_Or_int.l0 k y0 y1 y2 y3) (cmp_Or_int.l0 (k + 1) y0 y1 y2 y3))
 | 0 => fun _ _ _ _ r h => by simp [cmp_Or_int.l0] at h
 | k + 1 => by
  have ih0 := cmp_Or_int.mono_l k
  ·intro y0 y1 y2 y3
   unfold cmp_Or_int.l0
   repeat' first
   | (with_reducible exact ih0 _ _ _ _)
   | (with_reducible exact LeO.refl _)
   | (with_reducible exact LeO.none _)
   | (with_reducible refine LeO.ite ?_ ?_)
   | (with_reducible refine LeO.bind ?_ (fun _ => ?_))
   | exact ih0 _ _ _ _
   | exact LeO.none _
   | refine LeO.ite ?_ ?_
   | refine LeO.bind ?_ (fun _ => ?_)
theorem cmp_Or_int.mono : ∀ a0 k, LeO (cmp_Or_int.f k a0) (cmp_Or_int.f (k + 1) a0) := by
 intro a0 k
 have ih0 := cmp_Or_int.mono_l k
 unfold cmp_Or_int.f
 repeat' first
   | (with_reducible exact ih0 _ _ _ _)
   | (with_reducible exact LeO.refl _)
   | (with_reducible exact LeO.none _)
   | (with_reducible refine LeO.ite ?_ ?_)
   | (with_reducible refine LeO.bind ?_ (fun _ => ?_))
   | exact ih0 _ _ _ _
   | exact LeO.none _
   | refine LeO.ite ?_ ?_
   | refine LeO.bind ?_ (fun _ => ?_)
set_option maxHeartbeats 8000000 in
set_option maxRecDepth 100000 in
theorem cmp_Or_int.calls (k : Nat) (A0 : Option Addr) (c0 : Nat) (l0 : List Int) (r : Int) (w : World) (hr0 : Kd.C (Kd.int .i64) w A0 l0.length l0) (hc0 : l0.length ≤ c0) (h : cmp_Or_int.f k l0 = some r) :
  Calls Tryz.prog 159 #[.slice A0 l0.length c0] w fun e w' => e = .returned (.int .i64 r) ∧ Drawn0 w w' := by
 have HR0 := Aside0.mk hr0
 have HC0 := Aside0.mk hc0
 clear hr0 hc0
 have H : (cmp_Or_int.l0 k 0 l0 (l0.length : Int) 0) = some r := h
 clear h
 have H' := Aside0.mk H
 clear H
 go_enter Tryz.func159, Tryz.ntmps159
 go_wp2
 go_loopg [8] k (fun kq v8 w' => ∃ (x8_1 : Int), v8 = .int .i64 x8_1 ∧ Aside0 (cmp_Or_int.l0 kq 0 l0 (l0.length : Int) x8_1 = some r) ∧ Aside0 (kq ≤ k) ∧ Drawn0 w w')
 case atStart => exact ⟨(0), (by first | rfl | (simp; done) | (simp [*]; done)), H', ⟨Nat.le_refl _⟩, by repeat (first | exact Drawn0.refl _ | apply Drawn0.step)⟩
 case round =>
  clear H'
  try clear c1
  obtain ⟨x8_1, rfl, HA, HK1, ⟨m1, rfl⟩⟩ := hrel
  cases gk with
  | zero => exact absurd HA.out (by simp [cmp_Or_int.l0])
  | succ k1 =>
   have H := HA.out
   clear HA
   simp only [cmp_Or_int.l0] at H
   by_cases c2 : x8_1 < (l0.length : Int)
   ·rw [if_pos c2] at H
    have c2b0 : decide (x8_1 < (l0.length : Int)) = true := decide_eq_true c2
    clear c2
    by_cases c3 : 0 ≤ x8_1
    ·rw [if_pos c3] at H
     have c3b0 : decide (0 ≤ x8_1) = true := decide_eq_true c3
     clear c3
     by_cases c4 : x8_1 < (l0.length : Int)
     ·rw [if_pos c4] at H
      have c4b0 : decide (x8_1 < (l0.length : Int)) = true := decide_eq_true c4
      clear c4
      by_cases c5 : (rd l0 x8_1) = 0
      ·rw [if_pos c5] at H
       have c5b0 := beq_iff_eq.mpr c5
       have c5b1 := bne_eq_false_iff_eq.mpr c5
       clear c5
       have H' := Aside0.mk H
       clear H
       have p169 : 0 ≤ (x8_1 : Int) := of_decide_eq_true (by first | (with_reducible assumption) | assumption)
       have q169 : x8_1 < (l0.length : Int) := of_decide_eq_true (by first | (with_reducible assumption) | assumption)
       obtain ⟨ad169, e169, hx169_0⟩ := Kd.at_int HR0.out x8_1 p169 q169
       cases e169
       replace p169 := eq_true p169
       replace q169 := eq_true q169
       go_wp2
       go_roundg k1
       case measure => have := HK1.out; omega
       case rel => exact ⟨(wrap64 (x8_1 + 1)), (by first | rfl | (simp; done) | (simp [*]; done)), H', ⟨by have := HK1.out; omega⟩, by repeat (first | exact Drawn0.refl _ | apply Drawn0.step)⟩
      ·rw [if_neg c5] at H
       have c5b0 := beq_eq_false_iff_ne.mpr c5
       have c5b1 := bne_iff_ne.mpr c5
       obtain rfl := Option.some.inj H
       have p169 : 0 ≤ (x8_1 : Int) := of_decide_eq_true (by first | (with_reducible assumption) | assumption)
       have q169 : x8_1 < (l0.length : Int) := of_decide_eq_true (by first | (with_reducible assumption) | assumption)
       obtain ⟨ad169, e169, hx169_0⟩ := Kd.at_int HR0.out x8_1 p169 q169
       cases e169
       replace p169 := eq_true p169
       replace q169 := eq_true q169
       go_wp2
       go_ret
       exact ⟨by first | rfl | (simp; done) | (simp [*]; done), by repeat (first | exact Drawn0.refl _ | apply Drawn0.step)⟩
     ·rw [if_neg c4] at H
      exact absurd H (by simp)
    ·rw [if_neg c3] at H
     exact absurd H (by simp)
   ·rw [if_neg c2] at H
    have c2b0 : decide (x8_1 < (l0.length : Int)) = false := decide_eq_false c2
    clear c2
    obtain rfl := Option.some.inj H
    go_wp2
    go_ret
    exact ⟨by first | rfl | (simp; done) | (simp [*]; done), by repeat (first | exact Drawn0.refl _ | apply Drawn0.step)⟩
end Go.Proofs.YtjfcmkddeglghaaGreatDoor.G
end
section
namespace Go.Proofs.YtjfcmkddeglghaaGreatDoor.G
open Go.RowKit Go.Proofs.YtjfcmkddeglghaaGreatDoorW.PrintWords Go.Proofs.YtjfcmkddeglghaaGreatDoorW.PrintLast Go.Proofs.YtjfcmkddeglghaaGreatDoorW.PrintMore
attribute [local go_sem] max2_int min2_int max_two min_two max_three min_three max_four min_four
set_option linter.unusedVariables false
set_option linter.unusedSimpArgs false
def cmp_isNaN_int.f (a0 : Int) : Option (Bool) := some (a0 != a0)
set_option maxHeartbeats 8000000 in
set_option maxRecDepth 100000 in
theorem cmp_isNaN_int.calls (a0 : Int) (r : Bool) (w : World) (h : cmp_isNaN_int.f a0 = some r) :
  Calls Tryz.prog 197 #[.int .i64 a0] w fun e w' => e = .returned (.bool r) ∧ Drawn0 w w' := by
 have H : (some (a0 != a0)) = some r := h
 clear h
 obtain rfl := Option.some.inj H
 go_enter Tryz.func197, Tryz.ntmps197
 go_wp2
 go_ret
 exact ⟨by first | rfl | (simp; done) | (simp [*]; done), by repeat (first | exact Drawn0.refl _ | apply Drawn0.step)⟩
end Go.Proofs.YtjfcmkddeglghaaGreatDoor.G
end
section
namespace Go.Proofs.YtjfcmkddeglghaaGreatDoor.G
open Go.RowKit Go.Proofs.YtjfcmkddeglghaaGreatDoorW.PrintWords Go.Proofs.YtjfcmkddeglghaaGreatDoorW.PrintLast Go.Proofs.YtjfcmkddeglghaaGreatDoorW.PrintMore
attribute [local go_sem] max2_int min2_int max_two min_two max_three min_three max_four min_four
set_option linter.unusedVariables false
set_option linter.unusedSimpArgs false
def cmp_Compare_int.f (a0 : Int) (a1 : Int) : Option (Int) := (cmp_isNaN_int.f a0).bind fun t170 => ((cmp_isNaN_int.f a1).bind fun t171 => (if t170 = true then (if t171 = true then (some 0) else (some (-1))) else (if t171 = true then (some 1) else (if a0 < a1 then (some (-1)) else (if a0 > a1 then (some 1) else (some 0))))))
set_option maxHeartbeats 8000000 in
set_option maxRecDepth 100000 in
theorem cmp_Compare_int.calls (a0 : Int) (a1 : Int) (r : Int) (w : World) (h : cmp_Compare_int.f a0 a1 = some r) :
  Calls Tryz.prog 179 #[.int .i64 a0, .int .i64 a1] w fun e w' => e = .returned (.int .i64 r) ∧ Drawn0 w w' := by
 have H : ((cmp_isNaN_int.f a0).bind fun t170 => ((cmp_isNaN_int.f a1).bind fun t171 => (if t170 = true then (if t171 = true then (some 0) else (some (-1))) else (if t171 = true then (some 1) else (if a0 < a1 then (some (-1)) else (if a0 > a1 then (some 1) else (some 0))))))) = some r := h
 clear h
 obtain ⟨t170, A3, H⟩ := bo H
 obtain ⟨t171, A4, H⟩ := bo H
 by_cases c5 : t170 = true
 ·subst c5
  replace H := it H
  by_cases c6 : t171 = true
  ·subst c6
   replace H := it H
   obtain rfl := Option.some.inj H
   go_enter Tryz.func179, Tryz.ntmps179
   go_wp2_with (first | ((with_reducible refine gate_callee (f := 197) rfl ?_); refine gl 8 Tryz.func197 #[.int .i64 a0] ?_; (with_reducible refine (cmp_isNaN_int.calls a0 true _ A3.out).mono ?_); rintro e w' ⟨rfl, ⟨nd, rfl⟩⟩; refine ⟨_, rfl, ?_⟩) | ((with_reducible refine gate_callee (f := 197) rfl ?_); refine gl 10 Tryz.func197 #[.int .i64 a1] ?_; (with_reducible refine (cmp_isNaN_int.calls a1 true _ A4.out).mono ?_); rintro e w' ⟨rfl, ⟨nd, rfl⟩⟩; refine ⟨_, rfl, ?_⟩))
   go_ret
   exact ⟨by first | rfl | (simp; done) | (simp [*]; done), by repeat (first | exact Drawn0.refl _ | apply Drawn0.step)⟩
  ·replace c6 := Bool.eq_false_iff.mpr c6
   subst c6
   replace H := jf H
   obtain rfl := Option.some.inj H
   go_enter Tryz.func179, Tryz.ntmps179
   go_wp2_with (first | ((with_reducible refine gate_callee (f := 197) rfl ?_); refine gl 8 Tryz.func197 #[.int .i64 a0] ?_; (with_reducible refine (cmp_isNaN_int.calls a0 true _ A3.out).mono ?_); rintro e w' ⟨rfl, ⟨nd, rfl⟩⟩; refine ⟨_, rfl, ?_⟩) | ((with_reducible refine gate_callee (f := 197) rfl ?_); refine gl 10 Tryz.func197 #[.int .i64 a1] ?_; (with_reducible refine (cmp_isNaN_int.calls a1 false _ A4.out).mono ?_); rintro e w' ⟨rfl, ⟨nd, rfl⟩⟩; refine ⟨_, rfl, ?_⟩))
   go_ret
   exact ⟨by first | rfl | (simp; done) | (simp [*]; done), by repeat (first | exact Drawn0.refl _ | apply Drawn0.step)⟩
 ·replace c5 := Bool.eq_false_iff.mpr c5
  subst c5
  replace H := jf H
  by_cases c7 : t171 = true
  ·subst c7
   replace H := it H
   obtain rfl := Option.some.inj H
   go_enter Tryz.func179, Tryz.ntmps179
   go_wp2_with (first | ((with_reducible refine gate_callee (f := 197) rfl ?_); refine gl 8 Tryz.func197 #[.int .i64 a0] ?_; (with_reducible refine (cmp_isNaN_int.calls a0 false _ A3.out).mono ?_); rintro e w' ⟨rfl, ⟨nd, rfl⟩⟩; refine ⟨_, rfl, ?_⟩) | ((with_reducible refine gate_callee (f := 197) rfl ?_); refine gl 10 Tryz.func197 #[.int .i64 a1] ?_; (with_reducible refine (cmp_isNaN_int.calls a1 true _ A4.out).mono ?_); rintro e w' ⟨rfl, ⟨nd, rfl⟩⟩; refine ⟨_, rfl, ?_⟩))
   go_ret
   exact ⟨by first | rfl | (simp; done) | (simp [*]; done), by repeat (first | exact Drawn0.refl _ | apply Drawn0.step)⟩
  ·replace c7 := Bool.eq_false_iff.mpr c7
   subst c7
   replace H := jf H
   by_cases c8 : a0 < a1
   ·rw [if_pos c8] at H
    have c8b0 : decide (a0 < a1) = true := decide_eq_true c8
    clear c8
    obtain rfl := Option.some.inj H
    go_enter Tryz.func179, Tryz.ntmps179
    go_wp2_with (first | ((with_reducible refine gate_callee (f := 197) rfl ?_); refine gl 8 Tryz.func197 #[.int .i64 a0] ?_; (with_reducible refine (cmp_isNaN_int.calls a0 false _ A3.out).mono ?_); rintro e w' ⟨rfl, ⟨nd, rfl⟩⟩; refine ⟨_, rfl, ?_⟩) | ((with_reducible refine gate_callee (f := 197) rfl ?_); refine gl 10 Tryz.func197 #[.int .i64 a1] ?_; (with_reducible refine (cmp_isNaN_int.calls a1 false _ A4.out).mono ?_); rintro e w' ⟨rfl, ⟨nd, rfl⟩⟩; refine ⟨_, rfl, ?_⟩))
    go_ret
    exact ⟨by first | rfl | (simp; done) | (simp [*]; done), by repeat (first | exact Drawn0.refl _ | apply Drawn0.step)⟩
   ·rw [if_neg c8] at H
    have c8b0 : decide (a0 < a1) = false := decide_eq_false c8
    clear c8
    by_cases c9 : a0 > a1
    ·rw [if_pos c9] at H
     have c9b0 : decide (a1 < a0) = true := decide_eq_true c9
     clear c9
     obtain rfl := Option.some.inj H
     go_enter Tryz.func179, Tryz.ntmps179
     go_wp2_with (first | ((with_reducible refine gate_callee (f := 197) rfl ?_); refine gl 8 Tryz.func197 #[.int .i64 a0] ?_; (with_reducible refine (cmp_isNaN_int.calls a0 false _ A3.out).mono ?_); rintro e w' ⟨rfl, ⟨nd, rfl⟩⟩; refine ⟨_, rfl, ?_⟩) | ((with_reducible refine gate_callee (f := 197) rfl ?_); refine gl 10 Tryz.func197 #[.int .i64 a1] ?_; (with_reducible refine (cmp_isNaN_int.calls a1 false _ A4.out).mono ?_); rintro e w' ⟨rfl, ⟨nd, rfl⟩⟩; refine ⟨_, rfl, ?_⟩))
     go_ret
     exact ⟨by first | rfl | (simp; done) | (simp [*]; done), by repeat (first | exact Drawn0.refl _ | apply Drawn0.step)⟩
    ·rw [if_neg c9] at H
     have c9b0 : decide (a1 < a0) = false := decide_eq_false c9
     clear c9
     obtain rfl := Option.some.inj H
     go_enter Tryz.func179, Tryz.ntmps179
     go_wp2_with (first | ((with_reducible refine gate_callee (f := 197) rfl ?_); refine gl 8 Tryz.func197 #[.int .i64 a0] ?_; (with_reducible refine (cmp_isNaN_int.calls a0 false _ A3.out).mono ?_); rintro e w' ⟨rfl, ⟨nd, rfl⟩⟩; refine ⟨_, rfl, ?_⟩) | ((with_reducible refine gate_callee (f := 197) rfl ?_); refine gl 10 Tryz.func197 #[.int .i64 a1] ?_; (with_reducible refine (cmp_isNaN_int.calls a1 false _ A4.out).mono ?_); rintro e w' ⟨rfl, ⟨nd, rfl⟩⟩; refine ⟨_, rfl, ?_⟩))
     go_ret
     exact ⟨by first | rfl | (simp; done) | (simp [*]; done), by repeat (first | exact Drawn0.refl _ | apply Drawn0.step)⟩
end Go.Proofs.YtjfcmkddeglghaaGreatDoor.G
end
section
namespace Go.Proofs.YtjfcmkddeglghaaGreatDoor.G
open Go.RowKit Go.Proofs.YtjfcmkddeglghaaGreatDoorW.PrintWords Go.Proofs.YtjfcmkddeglghaaGreatDoorW.PrintLast Go.Proofs.YtjfcmkddeglghaaGreatDoorW.PrintMore
attribute [local go_sem] max2_int min2_int max_two min_two max_three min_three max_four min_four
set_option linter.unusedVariables false
set_option linter.unusedSimpArgs false
def number_Cmp.j0 : Nat → ByteArray → ByteArray → Bool → Option (Int × Int)
 | 0, _, _, _ => none
 | k + 1, x0, x1, x13 => if x13 = true then (some (0, 1)) else ((cmp_Compare_int.f (x0.size : Int) (x1.size : Int)).bind fun t174 => ((octet_Cmp.f x0 x1).bind fun t175 => ((cmp_Or_int.f k (([t174, t175] : List Int))).bind fun t179 => (some (t179, 0)))))
def number_Cmp.f (k : Nat) (a0 : ByteArray) (a1 : ByteArray) : Option (Int × Int) := (number_May.f a0).bind fun t172 => (if t172 = true then ((number_May.f a1).bind fun t173 => (number_Cmp.j0 k a0 a1 (!t173))) else (number_Cmp.j0 k a0 a1 true))
theorem number_Cmp.mono_l : ∀ k, (∀ y0 y1 y2, LeO (number_Cmp.j0 k y0 y1 y2) (number_Cmp.j0 (k + 1) y0 y1 y2))
 | 0 => fun _ _ _ r h => by simp [number_Cmp.j0] at h
 | k + 1 => by
  have ih0 := number_Cmp.mono_l k
  ·intro y0 y1 y2
   unfold number_Cmp.j0
   repeat' first
   | (with_reducible exact ih0 _ _ _)
   | (with_reducible exact cmp_Or_int.mono _ _)
   | (with_reducible exact LeO.refl _)
   | (with_reducible exact LeO.none _)
   | (with_reducible refine LeO.ite ?_ ?_)
   | (with_reducible refine LeO.bind ?_ (fun _ => ?_))
   | exact ih0 _ _ _
   | exact cmp_Or_int.mono _ _
   | exact LeO.none _
   | refine LeO.ite ?_ ?_
   | refine LeO.bind ?_ (fun _ => ?_)
theorem number_Cmp.mono : ∀ a0 a1 k, LeO (number_Cmp.f k a0 a1) (number_Cmp.f (k + 1) a0 a1) := by
 intro a0 a1 k
 have ih0 := number_Cmp.mono_l k
 unfold number_Cmp.f
 repeat' first
   | (with_reducible exact ih0 _ _ _)
   | (with_reducible exact cmp_Or_int.mono _ _)
   | (with_reducible exact LeO.refl _)
   | (with_reducible exact LeO.none _)
   | (with_reducible refine LeO.ite ?_ ?_)
   | (with_reducible refine LeO.bind ?_ (fun _ => ?_))
   | exact ih0 _ _ _
   | exact cmp_Or_int.mono _ _
   | exact LeO.none _
   | refine LeO.ite ?_ ?_
   | refine LeO.bind ?_ (fun _ => ?_)
set_option maxHeartbeats 8000000 in
set_option maxRecDepth 100000 in
theorem number_Cmp.calls (k : Nat) (a0 : ByteArray) (a1 : ByteArray) (r1 : Int) (r2 : Int) (w : World) (h : number_Cmp.f k a0 a1 = some (r1, r2)) :
  Calls Tryz.prog 196 #[.string a0, .string a1] w fun e w' => e = .returned (.tuple #[.int .i64 r1, .int .i64 r2]) ∧ Below w.heap.size w w' := by
 have HB := Aside0.mk (Below.refl w.heap.size w)
 have H : ((number_May.f a0).bind fun t172 => (if t172 = true then ((number_May.f a1).bind fun t173 => (number_Cmp.j0 k a0 a1 (!t173))) else (number_Cmp.j0 k a0 a1 true))) = some (r1, r2) := h
 clear h
 have HC3 := Aside0.mk H
 clear H
 go_enter Tryz.func196, Tryz.ntmps196
 go_upto_region 1 with (fail)
 go_cut [13] (fun v13 wc => ∃ (kq : Nat) (x13_2 : Bool), v13 = .bool x13_2 ∧ Aside0 (number_Cmp.j0 kq a0 a1 x13_2 = some (r1, r2)) ∧ Aside0 (kq ≤ k) ∧ Aside0 (Below w.heap.size w wc))
 case first =>
  have H := HC3.out
  clear HC3
  obtain ⟨t172, A4, H⟩ := bo H
  by_cases c5 : t172 = true
  ·subst c5
   replace H := it H
   obtain ⟨t173, A6, H⟩ := bo H
   have H' := Aside0.mk H
   clear H
   go_wp2_with (first | ((with_reducible refine gate_callee (f := 173) rfl ?_); refine gl 7 Tryz.func173 #[.string a0] ?_; (with_reducible refine (number_May.calls a0 true _ A4.out).mono ?_); rintro e w7 ⟨rfl, hb⟩; refine ⟨_, rfl, ?_⟩; have n0_ := bs HB hb; revert n0_; clear HB; intro HB; (try clear hb)) | (go_at_call 173; (with_reducible refine (number_May.calls a1 t173 _ A6.out).mono ?_); rintro e w8 ⟨rfl, hb⟩; have n0_ := bs HB hb; revert n0_; clear HB; intro HB; (try clear hb)))
   go_meet
   case rel => exact ⟨_, (!t173), (by first | rfl | (simp; done) | (simp [*]; done)), H', ⟨by first | omega | exact Nat.le_refl _⟩, ⟨ba HB⟩⟩
  ·replace c5 := Bool.eq_false_iff.mpr c5
   subst c5
   replace H := jf H
   have H' := Aside0.mk H
   clear H
   go_wp2_with (first | ((with_reducible refine gate_callee (f := 173) rfl ?_); refine gl 7 Tryz.func173 #[.string a0] ?_; (with_reducible refine (number_May.calls a0 false _ A4.out).mono ?_); rintro e w9 ⟨rfl, hb⟩; refine ⟨_, rfl, ?_⟩; have n0_ := bs HB hb; revert n0_; clear HB; intro HB; (try clear hb)))
   go_meet
   case rel => exact ⟨_, (true), (by first | rfl | (simp; done) | (simp [*]; done)), H', ⟨by first | omega | exact Nat.le_refl _⟩, ⟨ba HB⟩⟩
 case rest =>
  clear HC3
  try clear c1
  try clear p2
  try clear c5
  obtain ⟨kq, x13_2, rfl, HA, HJ2, HB⟩ := hcut
  cases kq with
  | zero => exact absurd HA.out (by simp [number_Cmp.j0])
  | succ kj2 =>
   have H := HA.out
   clear HA
   simp only [number_Cmp.j0] at H
   by_cases c10 : x13_2 = true
   ·subst c10
    replace H := it H
    simp only [Option.some.injEq, Prod.mk.injEq] at H
    obtain ⟨rfl, rfl⟩ := H
    go_wp2
    go_ret2
    exact ⟨by first | rfl | (simp [errW_none, errW_some] <;> rfl) | (simp [*, errW_none, errW_some] <;> rfl), ba HB⟩
   ·replace c10 := Bool.eq_false_iff.mpr c10
    subst c10
    replace H := jf H
    obtain ⟨t174, A11, H⟩ := bo H
    obtain ⟨t175, A12, H⟩ := bo H
    obtain ⟨y176, hy176⟩ : ∃ y_ : List Int, y_ = (([t174, t175] : List Int)) := ⟨_, rfl⟩
    replace H : ((cmp_Or_int.f kj2 y176).bind fun t179 => (some (t179, 0))) = some (r1, r2) := by first | (rw [hy176]; with_reducible exact H) | (have H2_ := (Option.bind_some _ _).symm.trans H; rw [hy176]; with_reducible exact H2_) | (have H2_ := (Option.bind_some _ _).symm.trans H; with_reducible exact H2_) | with_reducible exact H | (rw [hy176]; exact H) | exact H
    have Ny176 := Aside0.mk hy176
    clear hy176
    obtain ⟨t179, A13, H⟩ := bo H
    simp only [Option.some.injEq, Prod.mk.injEq] at H
    obtain ⟨rfl, rfl⟩ := H
    go_wp2_with (first | ((with_reducible refine gate_callee (f := 179) rfl ?_); refine gl 18 Tryz.func179 #[.int .i64 (a0.size : Int), .int .i64 (a1.size : Int)] ?_; (with_reducible refine (cmp_Compare_int.calls (a0.size : Int) (a1.size : Int) t174 _ A11.out).mono ?_); rintro e w' ⟨rfl, ⟨nd, rfl⟩⟩; refine ⟨_, rfl, ?_⟩) | ((with_reducible refine gate_callee (f := 122) rfl ?_); refine gl 21 Tryz.func122 #[.string a0, .string a1] ?_; (with_reducible refine (octet_Cmp.calls a0 a1 t175 _ A12.out).mono ?_); rintro e w' ⟨rfl, ⟨nd, rfl⟩⟩; refine ⟨_, rfl, ?_⟩) | ((with_reducible refine gate_dst (N := 22) rfl ?_); refine Kd.R_lit (Kd.int .i64) _ 3 ?hg (N := 22) ?hd (xs := ([t174, t175] : List Int)) (inner := [.int .i64 t174, .int .i64 t175]) (ok := fun _ => True) (okp := fun _ => True) ?hr ?hp (fun _ hk => hk) trivial (Below.refl _ _) (Nat.le_refl _) (by simp) ?_; (case hd => rfl); (case hg => rfl); (case hr => first | (go_simp; done) | (go_simp; rfl)); (case hp => exact (Reps.one (show Kd.M (Kd.int .i64) _ _ _ t174 [.int .i64 t174] from rfl) (Reps.one (show Kd.M (Kd.int .i64) _ _ _ t175 [.int .i64 t175] from rfl) (Reps.none _ _)))); intro v177 w14 ho15 hb hg_ hnew_; clear hg_ hnew_; (first | rw [← Ny176.out] at ho15 | (simp only [Int.reduceToNat] at ho15; rw [← Ny176.out] at ho15)); have n0_ := Aside0.mk (Kd.R_lower ho15 (bz HB)); have n1_ := bs HB hb; revert n0_ n1_; clear HB; intro HO178 HB; clear hb ho15; obtain ⟨Ao16, co16, eo16⟩ := Kd.R_slice HO178.out; subst eo16) | ((with_reducible refine gate_callee (f := 159) rfl ?_); refine gl 23 Tryz.func159 #[.slice Ao16 y176.length co16] ?_; (with_reducible refine (cmp_Or_int.calls kj2 _ _ y176 t179 _ ?side1 ?side2 A13.out).mono ?_); (case side1 => repeat (first | exact (Kd.R_reads' HO178.out).2.2 | (with_reducible refine Kd.C_alloc ?_ _) | (with_reducible refine Kd.C_drewN ?_ _) | (with_reducible refine Kd.C_drew ?_))); (case side2 => exact (Kd.R_reads' HO178.out).2.1); rintro e w' ⟨rfl, ⟨nd, rfl⟩⟩; refine ⟨_, rfl, ?_⟩))
    go_ret2
    exact ⟨by first | rfl | (simp [errW_none, errW_some] <;> rfl) | (simp [*, errW_none, errW_some] <;> rfl), ba HB⟩
end Go.Proofs.YtjfcmkddeglghaaGreatDoor.G
end
section
namespace Go.Proofs.YtjfcmkddeglghaaGreatDoor.G
open Go.RowKit Go.Proofs.YtjfcmkddeglghaaGreatDoorW.PrintWords Go.Proofs.YtjfcmkddeglghaaGreatDoorW.PrintLast Go.Proofs.YtjfcmkddeglghaaGreatDoorW.PrintMore
attribute [local go_sem] max2_int min2_int max_two min_two max_three min_three max_four min_four
set_option linter.unusedVariables false
set_option linter.unusedSimpArgs false
def version_numbers.f (k : Nat) (a0 : ByteArray) (a1 : ByteArray) : Option (Int) := (number_Cmp.f k a0 a1).bind fun bt180 => (some bt180.1)
theorem version_numbers.mono : ∀ a0 a1 k, LeO (version_numbers.f k a0 a1) (version_numbers.f (k + 1) a0 a1) := by
 intro a0 a1 k
 unfold version_numbers.f
 repeat' first
   | (with_reducible exact number_Cmp.mono _ _ _)
   | (with_reducible exact LeO.refl _)
   | (with_reducible exact LeO.none _)
   | (with_reducible refine LeO.ite ?_ ?_)
   | (with_reducible refine LeO.bind ?_ (fun _ => ?_))
   | exact number_Cmp.mono _ _ _
   | exact LeO.none _
   | refine LeO.ite ?_ ?_
   | refine LeO.bind ?_ (fun _ => ?_)
set_option maxHeartbeats 8000000 in
set_option maxRecDepth 100000 in
theorem version_numbers.calls (k : Nat) (a0 : ByteArray) (a1 : ByteArray) (r : Int) (w : World) (h : version_numbers.f k a0 a1 = some r) :
  Calls Tryz.prog 178 #[.string a0, .string a1] w fun e w' => e = .returned (.int .i64 r) ∧ Below w.heap.size w w' := by
 have HB := Aside0.mk (Below.refl w.heap.size w)
 have H : ((number_Cmp.f k a0 a1).bind fun bt180 => (some bt180.1)) = some r := h
 clear h
 obtain ⟨⟨t180, t181⟩, A3, H⟩ := bo H
 replace H : (some t180) = some r := H
 obtain rfl := Option.some.inj H
 go_enter Tryz.func178, Tryz.ntmps178
 go_wp2_with (first | ((with_reducible refine gate_callee (f := 196) rfl ?_); refine gl 10 Tryz.func196 #[.string a0, .string a1] ?_; (with_reducible refine (number_Cmp.calls k a0 a1 t180 t181 _ A3.out).mono ?_); rintro e w4 ⟨rfl, hb⟩; refine ⟨_, rfl, ?_⟩; have n0_ := bs HB hb; revert n0_; clear HB; intro HB; (try clear hb)))
 go_ret
 exact ⟨by first | rfl | (simp [errW_none, errW_some] <;> rfl) | (simp [*, errW_none, errW_some] <;> rfl), ba HB⟩
end Go.Proofs.YtjfcmkddeglghaaGreatDoor.G
end
section
namespace Go.Proofs.YtjfcmkddeglghaaGreatDoor.G
open Go.RowKit Go.Proofs.YtjfcmkddeglghaaGreatDoorW.PrintWords Go.Proofs.YtjfcmkddeglghaaGreatDoorW.PrintLast Go.Proofs.YtjfcmkddeglghaaGreatDoorW.PrintMore
attribute [local go_sem] max2_int min2_int max_two min_two max_three min_three max_four min_four
set_option linter.unusedVariables false
set_option linter.unusedSimpArgs false
def version_words.j0 : Nat → ByteArray → ByteArray → Bool → Bool → Bool → Option (Int)
 | 0, _, _, _, _, _ => none
 | k + 1, x0, x1, x5, x6, x11 => if x11 = true then ((version_numbers.f k x0 x1).bind fun t184 => (some t184)) else (if x5 = true then (some (-1)) else (if x6 = true then (some 1) else ((octet_Cmp.f x0 x1).bind fun t185 => (some t185))))
def version_words.f (k : Nat) (a0 : ByteArray) (a1 : ByteArray) : Option (Int) := (number_May.f a0).bind fun t182 => ((number_May.f a1).bind fun t183 => (if t182 = true then (version_words.j0 k a0 a1 t182 t183 t183) else (version_words.j0 k a0 a1 t182 t183 false)))
theorem version_words.mono_l : ∀ k, (∀ y0 y1 y2 y3 y4, LeO (version_words.j0 k y0 y1 y2 y3 y4) (version_words.j0 (k + 1) y0 y1 y2 y3 y4))
 | 0 => fun _ _ _ _ _ r h => by simp [version_words.j0] at h
 | k + 1 => by
  have ih0 := version_words.mono_l k
  ·intro y0 y1 y2 y3 y4
   unfold version_words.j0
   repeat' first
   | (with_reducible exact ih0 _ _ _ _ _)
   | (with_reducible exact version_numbers.mono _ _ _)
   | (with_reducible exact LeO.refl _)
   | (with_reducible exact LeO.none _)
   | (with_reducible refine LeO.ite ?_ ?_)
   | (with_reducible refine LeO.bind ?_ (fun _ => ?_))
   | exact ih0 _ _ _ _ _
   | exact version_numbers.mono _ _ _
   | exact LeO.none _
   | refine LeO.ite ?_ ?_
   | refine LeO.bind ?_ (fun _ => ?_)
theorem version_words.mono : ∀ a0 a1 k, LeO (version_words.f k a0 a1) (version_words.f (k + 1) a0 a1) := by
 intro a0 a1 k
 have ih0 := version_words.mono_l k
 unfold version_words.f
 repeat' first
   | (with_reducible exact ih0 _ _ _ _ _)
   | (with_reducible exact version_numbers.mono _ _ _)
   | (with_reducible exact LeO.refl _)
   | (with_reducible exact LeO.none _)
   | (with_reducible refine LeO.ite ?_ ?_)
   | (with_reducible refine LeO.bind ?_ (fun _ => ?_))
   | exact ih0 _ _ _ _ _
   | exact version_numbers.mono _ _ _
   | exact LeO.none _
   | refine LeO.ite ?_ ?_
   | refine LeO.bind ?_ (fun _ => ?_)
set_option maxHeartbeats 8000000 in
set_option maxRecDepth 100000 in
theorem version_words.calls (k : Nat) (a0 : ByteArray) (a1 : ByteArray) (r : Int) (w : World) (h : version_words.f k a0 a1 = some r) :
  Calls Tryz.prog 180 #[.string a0, .string a1] w fun e w' => e = .returned (.int .i64 r) ∧ Below w.heap.size w w' := by
 have HB := Aside0.mk (Below.refl w.heap.size w)
 have H : ((number_May.f a0).bind fun t182 => ((number_May.f a1).bind fun t183 => (if t182 = true then (version_words.j0 k a0 a1 t182 t183 t183) else (version_words.j0 k a0 a1 t182 t183 false)))) = some r := h
 clear h
 obtain ⟨t182, A3, H⟩ := bo H
 obtain ⟨t183, A4, H⟩ := bo H
 have HC5 := Aside0.mk H
 clear H
 go_enter Tryz.func180, Tryz.ntmps180
 go_upto_region 2 with (first | ((with_reducible refine gate_callee (f := 173) rfl ?_); refine gl 8 Tryz.func173 #[.string a0] ?_; (with_reducible refine (number_May.calls a0 t182 _ A3.out).mono ?_); rintro e w6 ⟨rfl, hb⟩; refine ⟨_, rfl, ?_⟩; have n0_ := bs HB hb; revert n0_; clear HB; intro HB; (try clear hb)) | ((with_reducible refine gate_callee (f := 173) rfl ?_); refine gl 10 Tryz.func173 #[.string a1] ?_; (with_reducible refine (number_May.calls a1 t183 _ A4.out).mono ?_); rintro e w7 ⟨rfl, hb⟩; refine ⟨_, rfl, ?_⟩; have n0_ := bs HB hb; revert n0_; clear HB; intro HB; (try clear hb)))
 (try simp only [Act.put, List.setIfInBounds_toArray, List.set_cons_zero, List.set_cons_succ])
 go_cut [11] (fun v11 wc => ∃ (kq : Nat) (x11_4 : Bool), v11 = .bool x11_4 ∧ Aside0 (version_words.j0 kq a0 a1 t182 t183 x11_4 = some r) ∧ Aside0 (kq ≤ k) ∧ Aside0 (Below w.heap.size w wc))
 case first =>
  have H := HC5.out
  clear HC5
  by_cases c8 : t182 = true
  ·subst c8
   replace H := it H
   have H' := Aside0.mk H
   clear H
   go_wp2
   go_meet
   case rel => exact ⟨_, (t183), (by first | rfl | (simp; done) | (simp [*]; done)), H', ⟨by first | omega | exact Nat.le_refl _⟩, ⟨ba HB⟩⟩
  ·replace c8 := Bool.eq_false_iff.mpr c8
   subst c8
   replace H := jf H
   have H' := Aside0.mk H
   clear H
   go_wp2
   go_meet
   case rel => exact ⟨_, (false), (by first | rfl | (simp; done) | (simp [*]; done)), H', ⟨by first | omega | exact Nat.le_refl _⟩, ⟨ba HB⟩⟩
 case rest =>
  clear HC5
  try clear c1
  try clear p2
  try clear c8
  obtain ⟨kq, x11_4, rfl, HA, HJ4, HB⟩ := hcut
  cases kq with
  | zero => exact absurd HA.out (by simp [version_words.j0])
  | succ kj4 =>
   have H := HA.out
   clear HA
   simp only [version_words.j0] at H
   by_cases c9 : x11_4 = true
   ·subst c9
    replace H := it H
    obtain ⟨t184, A10, H⟩ := bo H
    obtain rfl := Option.some.inj H
    go_wp2_with (first | ((with_reducible refine gate_callee (f := 178) rfl ?_); refine gl 18 Tryz.func178 #[.string a0, .string a1] ?_; (with_reducible refine (version_numbers.calls kj4 a0 a1 t184 _ A10.out).mono ?_); rintro e w11 ⟨rfl, hb⟩; refine ⟨_, rfl, ?_⟩; have n0_ := bs HB hb; revert n0_; clear HB; intro HB; (try clear hb)))
    go_ret
    exact ⟨by first | rfl | (simp [errW_none, errW_some] <;> rfl) | (simp [*, errW_none, errW_some] <;> rfl), ba HB⟩
   ·replace c9 := Bool.eq_false_iff.mpr c9
    subst c9
    replace H := jf H
    by_cases c12 : t182 = true
    ·subst c12
     replace H := it H
     obtain rfl := Option.some.inj H
     go_wp2
     go_ret
     exact ⟨by first | rfl | (simp [errW_none, errW_some] <;> rfl) | (simp [*, errW_none, errW_some] <;> rfl), ba HB⟩
    ·replace c12 := Bool.eq_false_iff.mpr c12
     subst c12
     replace H := jf H
     by_cases c13 : t183 = true
     ·subst c13
      replace H := it H
      obtain rfl := Option.some.inj H
      go_wp2
      go_ret
      exact ⟨by first | rfl | (simp [errW_none, errW_some] <;> rfl) | (simp [*, errW_none, errW_some] <;> rfl), ba HB⟩
     ·replace c13 := Bool.eq_false_iff.mpr c13
      subst c13
      replace H := jf H
      obtain ⟨t185, A14, H⟩ := bo H
      obtain rfl := Option.some.inj H
      go_wp2_with (first | ((with_reducible refine gate_callee (f := 122) rfl ?_); refine gl 25 Tryz.func122 #[.string a0, .string a1] ?_; (with_reducible refine (octet_Cmp.calls a0 a1 t185 _ A14.out).mono ?_); rintro e w' ⟨rfl, ⟨nd, rfl⟩⟩; refine ⟨_, rfl, ?_⟩))
      go_ret
      exact ⟨by first | rfl | (simp [errW_none, errW_some] <;> rfl) | (simp [*, errW_none, errW_some] <;> rfl), ba HB⟩
end Go.Proofs.YtjfcmkddeglghaaGreatDoor.G
end
section
namespace Go.Proofs.YtjfcmkddeglghaaGreatDoor.G
open Go.RowKit Gw Go.Proofs.YtjfcmkddeglghaaGreatDoorW.PrintWords Go.Proofs.YtjfcmkddeglghaaGreatDoorW.PrintLast Go.Proofs.YtjfcmkddeglghaaGreatDoorW.PrintMore
set_option linter.unusedVariables false
set_option linter.unusedSimpArgs false
theorem cmpS_less : ∀ a b : Str, cmpS a b = if Op.bytesLess a b = true then -1 else if (a == b) = true then 0 else 1 := by
  intro a
  induction a with
  | nil => intro b; cases b <;> rfl
  | cons x a ih =>
    intro b
    cases b with
    | nil => rfl
    | cons y b =>
      have hc : cmpS (x :: a) (y :: b) = or3 (cmpB x y) (cmpS a b) := rfl
      have hl : Op.bytesLess (x :: a) (y :: b) = (decide (x < y) || (x == y && Op.bytesLess a b)) := rfl
      rw [hc, hl]
      unfold cmpB cmpN or3
      by_cases h1 : x < y
      · have : x.toNat < y.toNat := h1
        simp [h1, this]
      · have h1' : ¬ x.toNat < y.toNat := h1
        by_cases h2 : x = y
        · subst h2
          simp [ih b]
        · have h3 : y.toNat < x.toNat := by
            have : x.toNat ≠ y.toNat := fun e => h2 (UInt8.toNat_inj.1 e)
            omega
          simp [h1, h1', h2, h3]
theorem octet_Cmp_ev (a b : Str) : octet_Cmp.f (ofL a) (ofL b) = some (cmpS a b) := by
  unfold octet_Cmp.f cmp_Compare_string.f
  rw [toList_ofL, toList_ofL, cmpS_less]
  rfl
theorem cmp_Compare_int_ev (a b : Nat) : cmp_Compare_int.f (a : Int) (b : Int) = some (cmpN a b) := by
  unfold cmp_Compare_int.f cmp_isNaN_int.f cmpN
  simp only [Option.bind_some, bne_self_eq_false, Bool.false_eq_true, if_false]
  by_cases h : a < b
  · rw [if_pos h, if_pos (by omega)]
  · rw [if_neg h, if_neg (by omega)]
    by_cases h2 : b < a
    · rw [if_pos h2, if_pos (by omega)]
    · rw [if_neg h2, if_neg (by omega)]
def orL : List Int → Int
  | [] => 0
  | x :: l => or3 x (orL l)
theorem cmp_Or_loop (l : List Int) (hl : l.length < 9223372036854775807) : ∀ n i, i + n = l.length → Ev (fun k => cmp_Or_int.l0 k 0 l (l.length : Int) (i : Int)) (orL (l.drop i)) := by
  intro n
  induction n with
  | zero =>
    intro i hi
    refine Ev.succ ?_
    simp only [cmp_Or_int.l0]
    refine Ev.neg (by omega) (Ev.some_eq ?_)
    rw [List.drop_of_length_le (by omega)]
    rfl
  | succ n ih =>
    intro i hi
    have hil : i < l.length := by omega
    refine Ev.succ ?_
    simp only [cmp_Or_int.l0]
    refine Ev.pos (by omega) (Ev.pos (by omega) (Ev.pos (by omega) ?_))
    have hr : rd l (i : Int) = l[i] := rdOf_at 0 l i hil
    rw [hr, drop_at _ _ hil]
    unfold orL or3
    by_cases h : l[i] = 0
    · rw [if_pos h]
      refine Ev.pos h ?_
      rw [w64n i (by omega)]
      exact ih (i + 1) (by omega)
    · rw [if_neg h]
      exact Ev.neg h (Ev.some_ _)
theorem cmp_Or_ev (l : List Int) (hl : l.length < 9223372036854775807) : Ev (fun k => cmp_Or_int.f k l) (orL l) := cmp_Or_loop l hl _ 0 (Nat.zero_add _)
theorem number_Cmp_ev (a b : Str) (ha : Sz a) (hb : Sz b) (ma : numMay a = true) (mb : numMay b = true) : Ev (fun k => number_Cmp.f k (ofL a) (ofL b)) (numCmp a b, 0) := by
  unfold number_Cmp.f
  refine Ev.bindc (number_May_ev a ha) (Ev.pos ma (Ev.bindc (number_May_ev b hb) ?_))
  rw [mb]
  refine Ev.succ ?_
  simp only [number_Cmp.j0]
  refine Ev.neg (by simp) (Ev.bindc (cmp_Compare_int_ev _ _) (Ev.bindc (octet_Cmp_ev a b) (Ev.bind (cmp_Or_ev _ (by simp)) (Ev.some_eq ?_))))
  unfold numCmp
  rw [size_ofL, size_ofL]
  have h0 : ∀ x : Int, or3 x 0 = x := fun x => by unfold or3; split <;> omega
  simp only [orL, h0]
theorem version_numbers_ev (a b : Str) (ha : Sz a) (hb : Sz b) (ma : numMay a = true) (mb : numMay b = true) : Ev (fun k => version_numbers.f k (ofL a) (ofL b)) (numCmp a b) := by
  unfold version_numbers.f
  exact Ev.bind (number_Cmp_ev a b ha hb ma mb) (Ev.some_ _)
theorem version_words_ev (a b : Str) (ha : Sz a) (hb : Sz b) : Ev (fun k => version_words.f k (ofL a) (ofL b)) (wordCmp a b) := by
  unfold version_words.f
  refine Ev.bindc (number_May_ev a ha) (Ev.bindc (number_May_ev b hb) ?_)
  unfold wordCmp
  cases ma : numMay a
  · refine Ev.neg (by simp) (Ev.succ ?_)
    simp only [version_words.j0]
    refine Ev.neg (by simp) (Ev.neg (by simp) ?_)
    cases mb : numMay b
    · refine Ev.neg (by simp) (Ev.bindc (octet_Cmp_ev a b) (Ev.some_eq (by simp)))
    · exact Ev.pos (by simp) (Ev.some_eq (by simp))
  · refine Ev.pos rfl (Ev.succ ?_)
    simp only [version_words.j0]
    cases mb : numMay b
    · refine Ev.neg (by simp) (Ev.pos (by simp) (Ev.some_eq (by simp)))
    · refine Ev.pos (by simp) (Ev.bind (version_numbers_ev a b ha hb ma mb) (Ev.some_eq (by simp)))
end Go.Proofs.YtjfcmkddeglghaaGreatDoor.G
end
