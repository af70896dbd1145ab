/- For every list of needs and every node WhyTells returns true, as the card says: how far nodes are away, and the chain to a node, are as the document says, or the error is. Condition: when the call begins, utf8.acceptRanges and utf8.first hold what Go's own text lays. (part 4 of its proof) -/
import Derived.BigQuiet
import Derived.Deep.LoopGhost
import Derived.Deep.OwnRows
import Derived.Deep.QuietTactic
import Derived.Deep.WholeRow
import Derived.IntWalk
import Derived.Laws.MakeOwn
import Derived.Laws.ResultCell
import Derived.Laws.Runes
import Derived.Laws.Strings3
import Derived.Lib.Bytealg
import Derived.Lib.DecodeN
import Derived.Lib.Hide
import Derived.Lib.IndexBytes
import Derived.Lib.MapLaws
import Derived.Lib.OthersKept
import Derived.Lib.Split
import Derived.Lib.SplitLaws
import Derived.Lib.Strings
import Derived.Lib.Walk
import Derived.Shelf.Abstract
import Derived.Shelf.Strings.IndexAnyAll
import Derived.Shelf.Strings.SplitCore
import Derived.Test.YtjfcmkddeglghaaGreatDoorProg
import Derived.WalkMore
import Derived.Test.YtjfcmkddeglghaaGreatDoorKa1
import Derived.Test.YtjfcmkddeglghaaGreatDoorKa2
import Derived.Test.YtjfcmkddeglghaaGreatDoorKa3
section
set_option linter.unusedVariables false
set_option linter.unusedSimpArgs false
namespace Gw
abbrev Str := List UInt8
def cmpB (a b : UInt8) : Int := cmpN a.toNat b.toNat
theorem cmpB_total : TotalOn Any cmpB := cmpN_total.comap UInt8.toNat (fun _ _ => trivial) fun x y _ _ h => UInt8.toNat_inj.1 h
def cmpS : Str → Str → Int := cmpLs cmpB
theorem cmpS_total : TotalOn Any cmpS := by
  have h := cmpLs_total cmpB_total
  exact ⟨h.self, h.anti, fun a b _ _ => h.eq0 a b (fun _ _ => trivial) (fun _ _ => trivial), fun a b d _ _ _ => h.trans a b d (fun _ _ => trivial) (fun _ _ => trivial) (fun _ _ => trivial)⟩
def parts (sep : UInt8) : Str → List Str
  | [] => [[]]
  | c :: s => if c = sep then [] :: parts sep s else match parts sep s with
    | [] => [[c]]
    | h :: t => (c :: h) :: t
def joinS (sep : UInt8) : List Str → Str
  | [] => []
  | [a] => a
  | a :: b :: l => a ++ sep :: joinS sep (b :: l)
theorem parts_ne (sep : UInt8) (s : Str) : parts sep s ≠ [] := by
  cases s with
  | nil => simp [parts]
  | cons c s => simp only [parts]; split <;> (try split) <;> simp
theorem joinS_cons (sep : UInt8) (a : Str) (l : List Str) (h : l ≠ []) : joinS sep (a :: l) = a ++ sep :: joinS sep l := by
  cases l with
  | nil => exact absurd rfl h
  | cons b l => rfl
theorem join_parts (sep : UInt8) (s : Str) : joinS sep (parts sep s) = s := by
  induction s with
  | nil => rfl
  | cons c s ih =>
    simp only [parts]
    split
    · rename_i h; subst h; rw [joinS_cons _ _ _ (parts_ne _ _), ih]; rfl
    · have := parts_ne sep s
      split
      · rename_i h; exact absurd h this
      · rename_i h t e
        rw [e] at ih
        cases t with
        | nil => simp only [joinS] at *; rw [ih]
        | cons b t => simp only [joinS] at *; rw [← ih]; rfl
def isDigit (c : UInt8) : Bool := 48 ≤ c && c ≤ 57
def isLetter (c : UInt8) : Bool := 65 ≤ c && c ≤ 90 || 97 ≤ c && c ≤ 122
def isMark (c : UInt8) : Bool := c == 45 || c == 46 || c == 95 || c == 126
def numMay (s : Str) : Bool := s.all isDigit && (s.length == 1 || decide (1 < s.length) && s.head? != some 48)
def numCmp (a b : Str) : Int := or3 (cmpN a.length b.length) (cmpS a b)
theorem numCmp_total : TotalOn Any numCmp := cmpN_total.lex cmpS_total List.length id (fun _ _ => trivial) (fun _ _ => trivial) fun x y _ _ _ h => h
def wordMay (s : Str) : Bool := s != [] && s.all (fun c => isDigit c || isLetter c || c == 45) && (numMay s || !s.all isDigit)
def wordCmp (a b : Str) : Int := if numMay a then (if numMay b then numCmp a b else -1) else (if numMay b then 1 else cmpS a b)
theorem wordCmp_total : TotalOn Any wordCmp where
  self a := by unfold wordCmp; cases h : numMay a <;> simp [numCmp_total.self, cmpS_total.self]
  anti a b := by
    unfold wordCmp
    cases numMay a <;> cases numMay b <;> simp [numCmp_total.anti a b, cmpS_total.anti a b]
  eq0 a b _ _ h := by
    unfold wordCmp at h
    cases ha : numMay a <;> cases hb : numMay b <;> simp [ha, hb] at h
    · exact cmpS_total.eq0 _ _ trivial trivial h
    · exact numCmp_total.eq0 _ _ trivial trivial h
  trans a b d _ _ _ h1 h2 := by
    unfold wordCmp at *
    cases ha : numMay a <;> cases hb : numMay b <;> cases hd : numMay d <;> simp [ha, hb, hd] at *
    · exact cmpS_total.trans _ _ _ trivial trivial trivial h1 h2
    · exact numCmp_total.trans _ _ _ trivial trivial trivial h1 h2
structure Ver where
  major : Str
  minor : Str
  patch : Str
  pre : List Str
def verSplit (s : Str) : Option Ver :=
  match s with
  | 118 :: r =>
    match parts 46 (r.takeWhile (· != 45)) with
    | [a, b, c] =>
      if numMay a && numMay b && numMay c then
        match r.dropWhile (· != 45) with
        | [] => some ⟨a, b, c, []⟩
        | _ :: q => if (parts 46 q).all wordMay then some ⟨a, b, c, parts 46 q⟩ else none
      else none
    | _ => none
  | _ => none
def verMay (s : Str) : Bool := (verSplit s).isSome
def verOf (s : Str) : Ver := (verSplit s).getD ⟨[], [], [], []⟩
def verText (v : Ver) : Str := 118 :: (joinS 46 [v.major, v.minor, v.patch] ++ if v.pre = [] then [] else 45 :: joinS 46 v.pre)
theorem verText_split {s : Str} {v : Ver} (h : verSplit s = some v) : verText v = s := by
  unfold verSplit at h
  split at h
  · rename_i r
    split at h
    · rename_i a b c e
      split at h
      · have hr : r.takeWhile (· != 45) ++ r.dropWhile (· != 45) = r := List.takeWhile_append_dropWhile
        have hj := join_parts 46 (r.takeWhile (· != 45))
        rw [e] at hj
        split at h
        · rename_i e2
          injection h with h
          subst h
          rw [e2] at hr
          simp only [verText, hj, if_true, List.append_nil] at *
          rw [hr]
        · rename_i x q e2
          split at h
          · injection h with h
            subst h
            have hx : x = 45 := by
              have := List.head?_dropWhile_not (fun x : UInt8 => x != 45) r
              rw [e2] at this
              simpa using this
            subst hx
            simp only [verText, hj, if_neg (parts_ne 46 q), join_parts]
            rw [e2] at hr
            rw [hr]
          · simp at h
      · simp at h
    · simp at h
  · simp at h
theorem verSplit_inj {s t : Str} {v : Ver} (hs : verSplit s = some v) (ht : verSplit t = some v) : s = t := by
  rw [← verText_split hs, ← verText_split ht]
def preCmp (a b : List Str) : Int := if a = [] then (if b = [] then 0 else 1) else if b = [] then -1 else cmpLs wordCmp a b
theorem preCmp_total : TotalOn Any preCmp where
  self a := by
    by_cases ha : a = []
    · simp [preCmp, ha]
    · simp [preCmp, ha, (cmpLs_total wordCmp_total).self]
  anti a b := by
    have h := (cmpLs_total wordCmp_total).anti a b
    by_cases ha : a = [] <;> by_cases hb : b = [] <;> simp [preCmp, ha, hb]
    exact h
  eq0 a b _ _ h := by
    by_cases ha : a = [] <;> by_cases hb : b = [] <;> simp [preCmp, ha, hb] at h ⊢
    exact (cmpLs_total wordCmp_total).eq0 _ _ (fun _ _ => trivial) (fun _ _ => trivial) h
  trans a b d _ _ _ h1 h2 := by
    by_cases ha : a = [] <;> by_cases hb : b = [] <;> by_cases hd : d = [] <;> simp [preCmp, ha, hb, hd] at h1 h2 ⊢
    exact (cmpLs_total wordCmp_total).trans _ _ _ (fun _ _ => trivial) (fun _ _ => trivial) (fun _ _ => trivial) h1 h2
def verCmp' (v w : Ver) : Int := or3 (numCmp v.major w.major) (or3 (numCmp v.minor w.minor) (or3 (numCmp v.patch w.patch) (preCmp v.pre w.pre)))
theorem verCmp'_total : TotalOn Any verCmp' := by
  have h3 : TotalOn Any fun v w : Str × List Str => or3 (numCmp v.1 w.1) (preCmp v.2 w.2) := numCmp_total.lex preCmp_total Prod.fst Prod.snd (fun _ _ => trivial) (fun _ _ => trivial) fun x y _ _ h1 h2 => Prod.ext h1 h2
  have h2 : TotalOn Any fun v w : Str × Str × List Str => or3 (numCmp v.1 w.1) (or3 (numCmp v.2.1 w.2.1) (preCmp v.2.2 w.2.2)) := numCmp_total.lex h3 Prod.fst Prod.snd (fun _ _ => trivial) (fun _ _ => trivial) fun x y _ _ h1 h2 => Prod.ext h1 h2
  have h1 : TotalOn Any fun v w : Str × Str × Str × List Str => or3 (numCmp v.1 w.1) (or3 (numCmp v.2.1 w.2.1) (or3 (numCmp v.2.2.1 w.2.2.1) (preCmp v.2.2.2 w.2.2.2))) := numCmp_total.lex h2 Prod.fst Prod.snd (fun _ _ => trivial) (fun _ _ => trivial) fun x y _ _ h1 h2 => Prod.ext h1 h2
  exact h1.comap (fun v : Ver => (v.major, v.minor, v.patch, v.pre)) (fun _ _ => trivial) fun x y _ _ h => by cases x; cases y; simp_all
def verCmp (s t : Str) : Int := verCmp' (verOf s) (verOf t)
theorem verCmp_total : TotalOn (fun s => verMay s = true) verCmp := verCmp'_total.comap verOf (fun _ _ => trivial) fun x y hx hy h => by
  unfold verMay at hx hy
  obtain ⟨v, hv⟩ := Option.isSome_iff_exists.1 hx
  obtain ⟨w, hw⟩ := Option.isSome_iff_exists.1 hy
  simp only [verOf, hv, hw, Option.getD_some] at h
  subst h
  exact verSplit_inj hv hw
def elemMay (s : Str) : Bool := s != [] && s.head? != some 46 && s.getLast? != some 46 && s.all fun c => isDigit c || isLetter c || isMark c
def pathMay (p : Str) : Bool := (parts 47 p).all elemMay
abbrev Nd := Str × Str
def ndMay (n : Nd) : Bool := pathMay n.1 && verMay n.2
def ndCmp (a b : Nd) : Int := or3 (cmpS a.1 b.1) (verCmp a.2 b.2)
theorem ndCmp_total : TotalOn (fun n => ndMay n = true) ndCmp :=
  cmpS_total.lex verCmp_total Prod.fst Prod.snd (fun _ _ => trivial) (fun x h => by simp [ndMay] at h; exact h.2) fun x y _ _ h1 h2 => Prod.ext h1 h2
end Gw
end
section
namespace Go.Proofs.YtjfcmkddeglghaaGreatDoor.G
open Go.RowKit Gw Go.Proofs.YtjfcmkddeglghaaGreatDoorW.PrintWords Go.Proofs.YtjfcmkddeglghaaGreatDoorW.PrintLast
set_option linter.unusedVariables false
set_option linter.unusedSimpArgs false
abbrev ofL (l : Str) : ByteArray := ⟨l.toArray⟩
theorem ofL_self (s : ByteArray) : ofL s.data.toList = s := by obtain ⟨⟨l⟩⟩ := s; rfl
theorem ext_data {s t : ByteArray} (h : s.data.toList = t.data.toList) : s = t := by rw [← ofL_self s, ← ofL_self t, h]
theorem ofL_inj {a b : Str} (h : ofL a = ofL b) : a = b := by have := congrArg (fun s : ByteArray => s.data.toList) h; exact this
theorem size_ofL (l : Str) : (ofL l).size = l.length := rfl
theorem size_data (s : ByteArray) : s.size = s.data.toList.length := Lib.size_eq s
theorem toList_data (s : ByteArray) : s.toList = s.data.toList := ByteArray.toList_eq s
theorem extract_ofL (l : Str) (a b : Nat) : (ofL l).extract a b = ofL ((l.drop a).take (b - a)) := ext_data (by rw [Lib.extract_data])
theorem bt_ofL (c : UInt8) (l : Str) : bt (ofL (c :: l)) 0 = (c.toNat : Int) := rfl
theorem w64 {x : Int} (h0 : -9223372036854775808 ≤ x) (h1 : x ≤ 9223372036854775807) : wrap64 x = x := by unfold wrap64; omega
theorem index_split (c : UInt8) : ∀ l : Str, c ∈ l → Lib.indexByte l c = ((l.takeWhile (· != c)).length : Int) ∧ l = l.takeWhile (· != c) ++ c :: (l.dropWhile (· != c)).tail ∧ (l.dropWhile (· != c)) = c :: (l.dropWhile (· != c)).tail := by
  intro l
  induction l with
  | nil => intro h; simp at h
  | cons b l ih =>
    intro h
    by_cases hb : b = c
    · subst hb; simp [Lib.indexByte]
    · have hb' : (b == c) = false := by simpa using hb
      have hb2 : (b != c) = true := by simpa using hb
      have hm : c ∈ l := by
        rcases List.mem_cons.1 h with h | h
        · exact absurd h.symm hb
        · exact h
      obtain ⟨h1, h2, h3⟩ := ih hm
      have et : List.takeWhile (fun x => x != c) (b :: l) = b :: List.takeWhile (fun x => x != c) l := List.takeWhile_cons_of_pos (p := fun x => x != c) hb2
      have ed : List.dropWhile (fun x => x != c) (b :: l) = List.dropWhile (fun x => x != c) l := List.dropWhile_cons_of_pos (p := fun x => x != c) hb2
      rw [et, ed]
      refine ⟨?_, ?_, h3⟩
      · unfold Lib.indexByte
        rw [hb', h1]
        simp only [Bool.false_eq_true, if_false]
        have : ((((l.takeWhile (· != c)).length : Int)) == -1) = false := by rw [beq_eq_false_iff_ne]; omega
        rw [this]
        simp
      · rw [List.cons_append, ← h2]
theorem index_none (c : UInt8) : ∀ l : Str, ¬ c ∈ l → Lib.indexByte l c = -1 ∧ l.takeWhile (· != c) = l ∧ l.dropWhile (· != c) = [] := by
  intro l
  induction l with
  | nil => intro _; exact ⟨rfl, rfl, rfl⟩
  | cons b l ih =>
    intro h
    have hb : ¬ b = c := fun e => h (by rw [e]; simp)
    have hb' : (b == c) = false := by simpa using hb
    have hb2 : (b != c) = true := by simpa using hb
    obtain ⟨h1, h2, h3⟩ := ih fun hm => h (by simp [hm])
    have et : List.takeWhile (fun x => x != c) (b :: l) = b :: List.takeWhile (fun x => x != c) l := List.takeWhile_cons_of_pos (p := fun x => x != c) hb2
    have ed : List.dropWhile (fun x => x != c) (b :: l) = List.dropWhile (fun x => x != c) l := List.dropWhile_cons_of_pos (p := fun x => x != c) hb2
    rw [et, ed]
    refine ⟨?_, by rw [h2], h3⟩
    unfold Lib.indexByte
    rw [hb', h1]; rfl
theorem parts_none (c : UInt8) : ∀ l : Str, ¬ c ∈ l → parts c l = [l] := by
  intro l
  induction l with
  | nil => intro _; rfl
  | cons b l ih =>
    intro h
    have hb : ¬ b = c := fun e => h (by rw [e]; simp)
    simp only [parts, if_neg hb, ih fun hm => h (by simp [hm])]
theorem parts_at (c : UInt8) : ∀ (p q : Str), ¬ c ∈ p → parts c (p ++ c :: q) = p :: parts c q := by
  intro p
  induction p with
  | nil => intro q _; simp [parts]
  | cons b p ih =>
    intro q h
    have hb : ¬ b = c := fun e => h (by rw [e]; simp)
    simp only [List.cons_append, parts, if_neg hb, ih q fun hm => h (by simp [hm])]
theorem not_mem_take (c : UInt8) (l : Str) : ¬ c ∈ l.takeWhile (· != c) := by
  intro h
  have := List.all_takeWhile (p := fun x : UInt8 => x != c) (l := l)
  rw [List.all_eq_true] at this
  simpa using this c h
theorem splitB_parts (c : UInt8) : ∀ (k : Nat) (l : Str), l.count c = k → Lib.splitB (ofL [c]) 0 k (ofL l) = (parts c l).map ofL := by
  intro k
  induction k with
  | zero =>
    intro l h
    rw [parts_none c l (List.count_eq_zero.1 h)]
    rfl
  | succ k ih =>
    intro l h
    have hm : c ∈ l := List.count_pos_iff.1 (by omega)
    obtain ⟨h1, h2, h3⟩ := index_split c l hm
    have hi : Lib.indexB (ofL l) (ofL [c]) = (((l.takeWhile (· != c)).length : Nat) : Int) := by
      show Lib.index l [c] = _
      rw [Lib.index_one, h1]
    rw [Lib.splitB_hit _ _ _ _ _ hi]
    have hn := not_mem_take c l
    generalize l.takeWhile (· != c) = p at *
    generalize (l.dropWhile (· != c)).tail = q at *
    have hq : q.count c = k := by
      rw [h2, List.count_append, List.count_cons_self, List.count_eq_zero.2 hn] at h
      omega
    have e1 : (ofL [c]).size = 1 := rfl
    have e2 : (ofL l).size = l.length := rfl
    rw [e1, e2, extract_ofL, extract_ofL]
    have e5 : (l.drop 0).take (p.length + 0 - 0) = p := by rw [h2]; simp
    have e6 : (l.drop (p.length + 1)).take (l.length - (p.length + 1)) = q := by
      rw [h2]
      simp
      exact List.take_of_length_le (by omega)
    rw [e5, e6, ih q hq]
    conv => rhs; rw [h2]
    rw [parts_at c p q hn]
    rfl
theorem parts_length (c : UInt8) : ∀ l : Str, (parts c l).length = l.count c + 1 := by
  intro l
  have h := splitB_parts c _ l rfl
  have h2 := Lib.splitB_all (ofL [c]) (Nat.le_refl 1) 0 (l.count c) (ofL l) (Lib.count_one c l)
  rw [h, List.length_map] at h2
  exact h2
end Go.Proofs.YtjfcmkddeglghaaGreatDoor.G
end
section
set_option linter.unusedVariables false
set_option linter.unusedSimpArgs false
namespace Go.Proofs.YtjfcmkddeglghaaGreatDoor.G
open Go.RowKit Gw Go.Proofs.YtjfcmkddeglghaaGreatDoorW.PrintWords Go.Proofs.YtjfcmkddeglghaaGreatDoorW.PrintLast Go.Proofs.YtjfcmkddeglghaaGreatDoorW.PrintMore
def Ev {α : Type} (F : Nat → Option α) (v : α) : Prop := ∃ k, ∀ j, k ≤ j → F j = some v
section
variable {α β : Type} {F G : Nat → Option α} {v u : α}
theorem Ev.some_ (v : α) : Ev (fun _ => some v) v := ⟨0, fun _ _ => rfl⟩
theorem Ev.of_eq {g : Option α} (h : g = some v) : Ev (fun _ => g) v := ⟨0, fun _ _ => h⟩
theorem Ev.some_eq (h : u = v) : Ev (fun _ => some u) v := ⟨0, fun _ _ => by rw [h]⟩
theorem Ev.bind {F : Nat → Option β} {G : Nat → β → Option α} {y : β} (hF : Ev F y) (hG : Ev (fun k => G k y) v) : Ev (fun k => (F k).bind (G k)) v := by
  obtain ⟨a, ha⟩ := hF
  obtain ⟨b, hb⟩ := hG
  refine ⟨a + b, fun j hj => ?_⟩
  show (F j).bind (G j) = some v
  rw [ha j (by omega)]
  exact hb j (by omega)
theorem Ev.bindc {g : Option β} {G : Nat → β → Option α} {y : β} (h : g = some y) (hG : Ev (fun k => G k y) v) : Ev (fun k => g.bind (G k)) v := Ev.bind (Ev.of_eq h) hG
theorem Ev.pos {c : Prop} [Decidable c] (h : c) (hF : Ev F v) : Ev (fun k => if c then F k else G k) v := by simpa only [if_pos h] using hF
theorem Ev.neg {c : Prop} [Decidable c] (h : ¬ c) (hG : Ev G v) : Ev (fun k => if c then F k else G k) v := by simpa only [if_neg h] using hG
theorem Ev.succ (h : Ev (fun k => F (k + 1)) v) : Ev F v := by
  obtain ⟨a, ha⟩ := h
  refine ⟨a + 1, fun j hj => ?_⟩
  obtain ⟨i, rfl⟩ : ∃ i, j = i + 1 := ⟨j - 1, by omega⟩
  exact ha i (by omega)
theorem Ev.get (h : Ev F v) : ∃ k, F k = some v := by
  obtain ⟨a, ha⟩ := h
  exact ⟨a, ha a (Nat.le_refl _)⟩
theorem Ev.val (h : Ev F v) (e : v = u) : Ev F u := e ▸ h
end
abbrev Sz (s : Str) : Prop := s.length < 4294967281
theorem w64n (n : Nat) (h : n < 9223372036854775807) : wrap64 ((n : Int) + 1) = ((n + 1 : Nat) : Int) := by rw [w64 (by omega) (by omega)]; rfl
theorem rdOf_at {α : Type} (d : α) (xs : List α) (i : Nat) (h : i < xs.length) : rdOf d xs (i : Int) = xs[i] := by
  unfold rdOf
  rw [Int.toNat_natCast, List.getD_eq_getElem?_getD, List.getElem?_eq_getElem h]
  rfl
theorem drop_at {α : Type} (xs : List α) (i : Nat) (h : i < xs.length) : xs.drop i = xs[i] :: xs.drop (i + 1) := List.drop_eq_getElem_cons h
theorem bt_at_ofL (l : Str) (i : Nat) (h : i < l.length) : bt (ofL l) (i : Int) = ((l[i]'h).toNat : Int) := by
  rw [← bt_at (ofL l) (i : Int) (by rw [Int.toNat_natCast]; exact h)]
  rfl
theorem toList_ofL (l : Str) : (ofL l).toList = l := by rw [toList_data]
theorem u8_all (p : UInt8 → Bool) (h : ((List.range 256).all fun n => p n.toUInt8) = true) (c : UInt8) : p c = true := by
  have h2 := List.all_eq_true.1 h c.toNat (List.mem_range.2 (UInt8.toNat_lt c))
  have h3 : c.toNat.toUInt8 = c := by simp
  rwa [h3] at h2
theorem parts_mem_le (c : UInt8) : ∀ (l p : Str), p ∈ parts c l → p.length ≤ l.length := by
  intro l
  induction l with
  | nil => intro p h; simp [parts] at h; subst h; simp
  | cons b l ih =>
    intro p h
    by_cases hb : b = c
    · simp only [parts, if_pos hb, List.mem_cons] at h
      rcases h with rfl | h
      · simp
      · have := ih p h; simp; omega
    · simp only [parts, if_neg hb] at h
      have hne := parts_ne c l
      cases e : parts c l with
      | nil => exact absurd e hne
      | cons x t =>
        rw [e] at h ih
        simp only [List.mem_cons] at h
        rcases h with rfl | h
        · have := ih x (by simp); simp; omega
        · have := ih p (by simp [h]); simp; omega
theorem parts_len (c : UInt8) (l : Str) : (parts c l).length ≤ l.length + 1 := by
  rw [parts_length]
  have := List.count_le_length (a := c) (l := l)
  omega
end Go.Proofs.YtjfcmkddeglghaaGreatDoor.G
end
section
namespace Go.Proofs.YtjfcmkddeglghaaGreatDoor.G
open Go.RowKit Go.Lib Go.Proofs.YtjfcmkddeglghaaGreatDoorW.PrintWords Go.Proofs.YtjfcmkddeglghaaGreatDoorW.PrintLast
set_option linter.unusedVariables false
set_option linter.unusedSimpArgs false
def octTexts : List (List UInt8) := [[], [48, 49, 50, 51, 52, 53, 54, 55, 56, 57],
  [97, 98, 99, 100, 101, 102, 103, 104, 105, 106, 107, 108, 109, 110, 111, 112, 113, 114, 115, 116, 117, 118, 119, 120, 121, 122, 65, 66, 67, 68, 69, 70, 71, 72, 73, 74, 75, 76, 77, 78, 79, 80, 81, 82, 83, 84, 85, 86, 87, 88, 89, 90],
  [45, 46, 95, 126], [47], [32, 9], [10], [34], [40], [41]]
def octText (i : Nat) : ByteArray := ⟨(octTexts.getD i []).toArray⟩
def octDone (i : Nat) : List (UInt8 × Nat) := ((octTexts.take i).zipIdx.map fun p => p.1.map fun c => (c, p.2)).flatten
def octTab (l : List (UInt8 × Nat)) : Array Value := l.foldl (fun c p => c.setIfInBounds p.1.toNat (.int .i64 (p.2 : Nat))) (Array.replicate 256 (.int .i64 0))
theorem octTab_snoc (l : List (UInt8 × Nat)) (c : UInt8) (k : Nat) : octTab (l ++ [(c, k)]) = (octTab l).setIfInBounds c.toNat (.int .i64 (k : Nat)) := by
  unfold octTab; rw [List.foldl_append]; rfl
def OctGood (c : Array Value) : Prop := c.size = 256 ∧ ∀ i, i < 256 → ∃ n : Int, c[i]? = some (.int .i64 n)
theorem OctGood.set {c : Array Value} (h : OctGood c) (j : Nat) (n : Int) : OctGood (c.setIfInBounds j (.int .i64 n)) := by
  refine ⟨by rw [Array.size_setIfInBounds]; exact h.1, fun i hi => ?_⟩
  rw [Array.getElem?_setIfInBounds]
  split
  · rename_i e; subst e; exact ⟨_, by rw [if_pos (by rw [h.1]; exact hi)]⟩
  · exact h.2 i hi
theorem octGood_fold (l : List (UInt8 × Nat)) : ∀ c : Array Value, OctGood c → OctGood (l.foldl (fun c p => c.setIfInBounds p.1.toNat (.int .i64 (p.2 : Nat))) c) := by
  induction l with
  | nil => intro c h; exact h
  | cons p l ih => intro c h; exact ih _ (h.set _ _)
theorem octTab_good (l : List (UInt8 × Nat)) : OctGood (octTab l) := octGood_fold l _ ⟨by simp, fun i hi => ⟨0, by simp [hi]⟩⟩
theorem octTab_size (l : List (UInt8 × Nat)) : (octTab l).size = 256 := (octTab_good l).1
theorem octTab_ints (l : List (UInt8 × Nat)) : ∀ i, i < 256 → ∃ n : Int, (octTab l)[i]? = some (.int .i64 n) := (octTab_good l).2
theorem octTab_one (l : List (UInt8 × Nat)) : (octTab l).all (·.oneCell') = true := by
  rw [Array.all_eq_true]
  intro i hi
  obtain ⟨n, hn⟩ := octTab_ints l i (by rw [octTab_size] at hi; exact hi)
  rw [Array.getElem?_eq_getElem hi] at hn
  rw [Option.some.inj hn]; rfl
def octClass (c : UInt8) : Nat := if 48 ≤ c && c ≤ 57 then 1 else if 65 ≤ c && c ≤ 90 || 97 ≤ c && c ≤ 122 then 2 else if c == 45 || c == 46 || c == 95 || c == 126 then 3
  else if c == 47 then 4 else if c == 32 || c == 9 then 5 else if c == 10 then 6 else if c == 34 then 7 else if c == 40 then 8 else if c == 41 then 9 else 0
theorem octClass_lt (c : UInt8) : octClass c < 10 := by
  unfold octClass
  repeat' split
  all_goals omega
def octNum : Option Value → Int
  | some (.int .i64 k) => k
  | _ => -1
set_option maxRecDepth 100000 in
theorem octTab_all : (List.range 256).all (fun n => octNum ((octTab (octDone 10))[n]?) == (octClass n.toUInt8 : Int)) = true := by kernel_rfl
theorem octTab_at (c : UInt8) : (octTab (octDone 10))[c.toNat]? = some (.int .i64 (octClass c : Nat)) := by
  have h2 : octNum ((octTab (octDone 10))[c.toNat]?) = (octClass c.toNat.toUInt8 : Int) := by
    have := List.all_eq_true.1 octTab_all c.toNat (List.mem_range.2 (UInt8.toNat_lt c))
    simpa only [beq_iff_eq] using this
  obtain ⟨n, hn⟩ := octTab_ints (octDone 10) c.toNat (UInt8.toNat_lt c)
  rw [hn] at h2 ⊢
  have h3 : n = (octClass c.toNat.toUInt8 : Int) := h2
  rw [h3]
  have h4 : c.toNat.toUInt8 = c := by simp
  rw [h4]
set_option maxRecDepth 100000 in
theorem octArr_index (i : Nat) (hi : i < 10) (w : World) : (Instr.index 227 (.agg #[.string ⟨#[]⟩, .string ⟨#[48, 49, 50, 51, 52, 53, 54, 55, 56, 57]⟩, .string ⟨#[97, 98, 99, 100, 101, 102, 103, 104, 105, 106, 107, 108, 109, 110, 111, 112, 113, 114, 115, 116, 117, 118, 119, 120, 121, 122, 65, 66, 67, 68, 69, 70, 71, 72, 73, 74, 75, 76, 77, 78, 79, 80, 81, 82, 83, 84, 85, 86, 87, 88, 89, 90]⟩, .string ⟨#[45, 46, 95, 126]⟩, .string ⟨#[47]⟩, .string ⟨#[32, 9]⟩, .string ⟨#[10]⟩, .string ⟨#[34]⟩, .string ⟨#[40]⟩, .string ⟨#[41]⟩]) (.int .i64 (i : Int))).run Tryz.prog w = .ok (.string (octText i)) w := by
  have hall : ∀ j : Fin 10, (Instr.index 227 (.agg #[.string ⟨#[]⟩, .string ⟨#[48, 49, 50, 51, 52, 53, 54, 55, 56, 57]⟩, .string ⟨#[97, 98, 99, 100, 101, 102, 103, 104, 105, 106, 107, 108, 109, 110, 111, 112, 113, 114, 115, 116, 117, 118, 119, 120, 121, 122, 65, 66, 67, 68, 69, 70, 71, 72, 73, 74, 75, 76, 77, 78, 79, 80, 81, 82, 83, 84, 85, 86, 87, 88, 89, 90]⟩, .string ⟨#[45, 46, 95, 126]⟩, .string ⟨#[47]⟩, .string ⟨#[32, 9]⟩, .string ⟨#[10]⟩, .string ⟨#[34]⟩, .string ⟨#[40]⟩, .string ⟨#[41]⟩]) (.int .i64 ((j.val : Nat) : Int))).run Tryz.prog w = .ok (.string (octText j.val)) w := by
    intro j
    match j with
    | ⟨0, _⟩ => exact (by kernel_rfl : (Instr.index 227 (.agg #[.string ⟨#[]⟩, .string ⟨#[48, 49, 50, 51, 52, 53, 54, 55, 56, 57]⟩, .string ⟨#[97, 98, 99, 100, 101, 102, 103, 104, 105, 106, 107, 108, 109, 110, 111, 112, 113, 114, 115, 116, 117, 118, 119, 120, 121, 122, 65, 66, 67, 68, 69, 70, 71, 72, 73, 74, 75, 76, 77, 78, 79, 80, 81, 82, 83, 84, 85, 86, 87, 88, 89, 90]⟩, .string ⟨#[45, 46, 95, 126]⟩, .string ⟨#[47]⟩, .string ⟨#[32, 9]⟩, .string ⟨#[10]⟩, .string ⟨#[34]⟩, .string ⟨#[40]⟩, .string ⟨#[41]⟩]) (.int .i64 0)).run Tryz.prog w = .ok (.string (octText 0)) w)
    | ⟨1, _⟩ => exact (by kernel_rfl : (Instr.index 227 (.agg #[.string ⟨#[]⟩, .string ⟨#[48, 49, 50, 51, 52, 53, 54, 55, 56, 57]⟩, .string ⟨#[97, 98, 99, 100, 101, 102, 103, 104, 105, 106, 107, 108, 109, 110, 111, 112, 113, 114, 115, 116, 117, 118, 119, 120, 121, 122, 65, 66, 67, 68, 69, 70, 71, 72, 73, 74, 75, 76, 77, 78, 79, 80, 81, 82, 83, 84, 85, 86, 87, 88, 89, 90]⟩, .string ⟨#[45, 46, 95, 126]⟩, .string ⟨#[47]⟩, .string ⟨#[32, 9]⟩, .string ⟨#[10]⟩, .string ⟨#[34]⟩, .string ⟨#[40]⟩, .string ⟨#[41]⟩]) (.int .i64 1)).run Tryz.prog w = .ok (.string (octText 1)) w)
    | ⟨2, _⟩ => exact (by kernel_rfl : (Instr.index 227 (.agg #[.string ⟨#[]⟩, .string ⟨#[48, 49, 50, 51, 52, 53, 54, 55, 56, 57]⟩, .string ⟨#[97, 98, 99, 100, 101, 102, 103, 104, 105, 106, 107, 108, 109, 110, 111, 112, 113, 114, 115, 116, 117, 118, 119, 120, 121, 122, 65, 66, 67, 68, 69, 70, 71, 72, 73, 74, 75, 76, 77, 78, 79, 80, 81, 82, 83, 84, 85, 86, 87, 88, 89, 90]⟩, .string ⟨#[45, 46, 95, 126]⟩, .string ⟨#[47]⟩, .string ⟨#[32, 9]⟩, .string ⟨#[10]⟩, .string ⟨#[34]⟩, .string ⟨#[40]⟩, .string ⟨#[41]⟩]) (.int .i64 2)).run Tryz.prog w = .ok (.string (octText 2)) w)
    | ⟨3, _⟩ => exact (by kernel_rfl : (Instr.index 227 (.agg #[.string ⟨#[]⟩, .string ⟨#[48, 49, 50, 51, 52, 53, 54, 55, 56, 57]⟩, .string ⟨#[97, 98, 99, 100, 101, 102, 103, 104, 105, 106, 107, 108, 109, 110, 111, 112, 113, 114, 115, 116, 117, 118, 119, 120, 121, 122, 65, 66, 67, 68, 69, 70, 71, 72, 73, 74, 75, 76, 77, 78, 79, 80, 81, 82, 83, 84, 85, 86, 87, 88, 89, 90]⟩, .string ⟨#[45, 46, 95, 126]⟩, .string ⟨#[47]⟩, .string ⟨#[32, 9]⟩, .string ⟨#[10]⟩, .string ⟨#[34]⟩, .string ⟨#[40]⟩, .string ⟨#[41]⟩]) (.int .i64 3)).run Tryz.prog w = .ok (.string (octText 3)) w)
    | ⟨4, _⟩ => exact (by kernel_rfl : (Instr.index 227 (.agg #[.string ⟨#[]⟩, .string ⟨#[48, 49, 50, 51, 52, 53, 54, 55, 56, 57]⟩, .string ⟨#[97, 98, 99, 100, 101, 102, 103, 104, 105, 106, 107, 108, 109, 110, 111, 112, 113, 114, 115, 116, 117, 118, 119, 120, 121, 122, 65, 66, 67, 68, 69, 70, 71, 72, 73, 74, 75, 76, 77, 78, 79, 80, 81, 82, 83, 84, 85, 86, 87, 88, 89, 90]⟩, .string ⟨#[45, 46, 95, 126]⟩, .string ⟨#[47]⟩, .string ⟨#[32, 9]⟩, .string ⟨#[10]⟩, .string ⟨#[34]⟩, .string ⟨#[40]⟩, .string ⟨#[41]⟩]) (.int .i64 4)).run Tryz.prog w = .ok (.string (octText 4)) w)
    | ⟨5, _⟩ => exact (by kernel_rfl : (Instr.index 227 (.agg #[.string ⟨#[]⟩, .string ⟨#[48, 49, 50, 51, 52, 53, 54, 55, 56, 57]⟩, .string ⟨#[97, 98, 99, 100, 101, 102, 103, 104, 105, 106, 107, 108, 109, 110, 111, 112, 113, 114, 115, 116, 117, 118, 119, 120, 121, 122, 65, 66, 67, 68, 69, 70, 71, 72, 73, 74, 75, 76, 77, 78, 79, 80, 81, 82, 83, 84, 85, 86, 87, 88, 89, 90]⟩, .string ⟨#[45, 46, 95, 126]⟩, .string ⟨#[47]⟩, .string ⟨#[32, 9]⟩, .string ⟨#[10]⟩, .string ⟨#[34]⟩, .string ⟨#[40]⟩, .string ⟨#[41]⟩]) (.int .i64 5)).run Tryz.prog w = .ok (.string (octText 5)) w)
    | ⟨6, _⟩ => exact (by kernel_rfl : (Instr.index 227 (.agg #[.string ⟨#[]⟩, .string ⟨#[48, 49, 50, 51, 52, 53, 54, 55, 56, 57]⟩, .string ⟨#[97, 98, 99, 100, 101, 102, 103, 104, 105, 106, 107, 108, 109, 110, 111, 112, 113, 114, 115, 116, 117, 118, 119, 120, 121, 122, 65, 66, 67, 68, 69, 70, 71, 72, 73, 74, 75, 76, 77, 78, 79, 80, 81, 82, 83, 84, 85, 86, 87, 88, 89, 90]⟩, .string ⟨#[45, 46, 95, 126]⟩, .string ⟨#[47]⟩, .string ⟨#[32, 9]⟩, .string ⟨#[10]⟩, .string ⟨#[34]⟩, .string ⟨#[40]⟩, .string ⟨#[41]⟩]) (.int .i64 6)).run Tryz.prog w = .ok (.string (octText 6)) w)
    | ⟨7, _⟩ => exact (by kernel_rfl : (Instr.index 227 (.agg #[.string ⟨#[]⟩, .string ⟨#[48, 49, 50, 51, 52, 53, 54, 55, 56, 57]⟩, .string ⟨#[97, 98, 99, 100, 101, 102, 103, 104, 105, 106, 107, 108, 109, 110, 111, 112, 113, 114, 115, 116, 117, 118, 119, 120, 121, 122, 65, 66, 67, 68, 69, 70, 71, 72, 73, 74, 75, 76, 77, 78, 79, 80, 81, 82, 83, 84, 85, 86, 87, 88, 89, 90]⟩, .string ⟨#[45, 46, 95, 126]⟩, .string ⟨#[47]⟩, .string ⟨#[32, 9]⟩, .string ⟨#[10]⟩, .string ⟨#[34]⟩, .string ⟨#[40]⟩, .string ⟨#[41]⟩]) (.int .i64 7)).run Tryz.prog w = .ok (.string (octText 7)) w)
    | ⟨8, _⟩ => exact (by kernel_rfl : (Instr.index 227 (.agg #[.string ⟨#[]⟩, .string ⟨#[48, 49, 50, 51, 52, 53, 54, 55, 56, 57]⟩, .string ⟨#[97, 98, 99, 100, 101, 102, 103, 104, 105, 106, 107, 108, 109, 110, 111, 112, 113, 114, 115, 116, 117, 118, 119, 120, 121, 122, 65, 66, 67, 68, 69, 70, 71, 72, 73, 74, 75, 76, 77, 78, 79, 80, 81, 82, 83, 84, 85, 86, 87, 88, 89, 90]⟩, .string ⟨#[45, 46, 95, 126]⟩, .string ⟨#[47]⟩, .string ⟨#[32, 9]⟩, .string ⟨#[10]⟩, .string ⟨#[34]⟩, .string ⟨#[40]⟩, .string ⟨#[41]⟩]) (.int .i64 8)).run Tryz.prog w = .ok (.string (octText 8)) w)
    | ⟨9, _⟩ => exact (by kernel_rfl : (Instr.index 227 (.agg #[.string ⟨#[]⟩, .string ⟨#[48, 49, 50, 51, 52, 53, 54, 55, 56, 57]⟩, .string ⟨#[97, 98, 99, 100, 101, 102, 103, 104, 105, 106, 107, 108, 109, 110, 111, 112, 113, 114, 115, 116, 117, 118, 119, 120, 121, 122, 65, 66, 67, 68, 69, 70, 71, 72, 73, 74, 75, 76, 77, 78, 79, 80, 81, 82, 83, 84, 85, 86, 87, 88, 89, 90]⟩, .string ⟨#[45, 46, 95, 126]⟩, .string ⟨#[47]⟩, .string ⟨#[32, 9]⟩, .string ⟨#[10]⟩, .string ⟨#[34]⟩, .string ⟨#[40]⟩, .string ⟨#[41]⟩]) (.int .i64 9)).run Tryz.prog w = .ok (.string (octText 9)) w)
  exact hall ⟨i, hi⟩
def octRun (i : Nat) : List (UInt8 × Nat) := (octText i).data.toList.map fun c => (c, i)
theorem octRun_length (i : Nat) : (octRun i).length = (octText i).size := by unfold octRun; rw [List.length_map, ← Lib.size_eq]
theorem octRun_get (i k : Nat) (hk : k < (octText i).size) : (octRun i)[k]? = some ((octText i)[k]'hk, i) := by
  unfold octRun
  rw [List.getElem?_map, Lib.data_getElem? _ k hk]; rfl
theorem octText_small (i : Nat) (hi : i < 10) : (octText i).size ≤ 60 := by
  have h : i = 0 ∨ i = 1 ∨ i = 2 ∨ i = 3 ∨ i = 4 ∨ i = 5 ∨ i = 6 ∨ i = 7 ∨ i = 8 ∨ i = 9 := by omega
  rcases h with rfl | rfl | rfl | rfl | rfl | rfl | rfl | rfl | rfl | rfl <;> decide
theorem octDone_succ (i : Nat) (hi : i < 10) : octDone i ++ octRun i = octDone (i + 1) := by
  have h : i = 0 ∨ i = 1 ∨ i = 2 ∨ i = 3 ∨ i = 4 ∨ i = 5 ∨ i = 6 ∨ i = 7 ∨ i = 8 ∨ i = 9 := by omega
  rcases h with rfl | rfl | rfl | rfl | rfl | rfl | rfl | rfl | rfl | rfl <;> rfl
theorem octInfo : (Tryz.prog.info? 220).map (·.size) = some 256 := by kernel_rfl
set_option maxHeartbeats 4000000 in
set_option maxRecDepth 1000000 in
theorem octet_classes.calls (w : World) :
    Calls Tryz.prog 204 #[] w fun e w' => e = .returned (.agg (octTab (octDone 10))) ∧ w' = w.alloc (.cells (octTab (octDone 10)) 220) := by
  go_enter Tryz.func204, Tryz.ntmps204
  go_wp2
  have hz : Tryz.zeroCells220 = octTab (octDone 0) := by kernel_rfl
  rw [hz]
  clear hz
  go_loopg [5] 10 (fun g s5 wx => ∃ i : Nat, i + g = 10 ∧ s5 = .int .i64 i ∧ wx = w.alloc (.cells (octTab (octDone i)) 220))
  case atStart => exact ⟨0, rfl, rfl, rfl⟩
  case round =>
    obtain ⟨i, hig, rfl, rfl⟩ := hrel
    cases gk with
    | zero =>
      obtain rfl : i = 10 := by omega
      have hsz := octTab_size (octDone 10)
      have hon := octTab_one (octDone 10)
      have hst := run_storeCells_new (P := Tryz.prog) w 220 (octTab (octDone 10)) (octTab (octDone 10)) (by rw [hsz]; exact octInfo) rfl hon
      have Hst := Lib.hid hst
      clear hst hon hsz hig
      have hlt : ¬ ((10 : Int) < 10) := by omega
      go_wp2
      refine wp_load_row 220 _ rfl w.heap.size rfl 220 (octTab (octDone 10)) (0, 0) _ (heap_alloc_new _ _) Tryz.underlying220 rfl (by rw [octTab_size]; exact octInfo) ?_
      go_wp2
      rw [Hst.out]
      simp only [Result.andThen]
      rw [Oper.upon_skip]
      go_wp2
      (try simp only [Exit.inBlock, Exit.then])
      exact bodyPost_ret (v := .agg (octTab (octDone 10))) (results_cell_row rfl _ _ w.heap.size 220 _ (0, 0) _ rfl (heap_alloc_new _ _) Tryz.underlying220 rfl (by rw [octTab_size]; exact octInfo)) rfl ⟨rfl, rfl⟩
    | succ g =>
      have hi : i < 10 := by omega
      have hidx := octArr_index i hi
      have hsm := octText_small i hi
      go_wp2
      go_loopg [11] (octText i).size (fun g s11 wx => ∃ k : Nat, k + g = (octText i).size ∧ s11 = .int .i64 k ∧ wx = w.alloc (.cells (octTab (octDone i ++ (octRun i).take k)) 220))
      case atStart => exact ⟨0, by omega, rfl, by simp⟩
      case round =>
        obtain ⟨k, hkg, rfl, rfl⟩ := hrel
        cases gk with
        | zero =>
          obtain rfl : k = (octText i).size := by omega
          have hlt : ¬ (((octText i).size : Int) < ((octText i).size : Int)) := by omega
          rw [List.take_of_length_le (Nat.le_of_eq (octRun_length i))]
          rw [octDone_succ i hi]
          go_wp2
          go_roundg g
          case measure => omega
          case rel => exact ⟨i + 1, by omega, by first | rfl | simp, rfl⟩
        | succ g2 =>
          have hlt : (k : Int) < ((octText i).size : Int) := by omega
          have hk : k < (octText i).size := by omega
          obtain ⟨x, hx⟩ : ∃ x : UInt8, (octText i)[k]'hk = x := ⟨_, rfl⟩
          have hx256 : (x.toNat : Int) < 256 := by have := UInt8.toNat_lt x; omega
          obtain ⟨n, hcell⟩ := octTab_ints (octDone i ++ (octRun i).take k) x.toNat (UInt8.toNat_lt x)
          have Hx : Aside ((octRun i)[k]? = some (x, i)) := by rw [← hx]; exact octRun_get i k hk
          go_wp2
          go_roundg g2
          case measure => omega
          case rel => exact ⟨k + 1, by omega, by first | rfl | simp, by rw [List.take_add_one, Hx.out]; simp only [Option.toList]; rw [← List.append_assoc, octTab_snoc]⟩
theorem oct_index (c : Int) (h0 : 0 ≤ c) (h1 : c ≤ 255) (w : World) : (Instr.index 220 (.agg (octTab (octDone 10))) (.int .u8 c)).run Tryz.prog w = .ok (.int .i64 (octClass c.toNat.toUInt8 : Nat)) w := by
  have hat := octTab_at c.toNat.toUInt8
  have hc : c.toNat.toUInt8.toNat = c.toNat := by simp; omega
  rw [hc] at hat
  have hz : ∀ w : World, (Go.sizeOf 3).run Tryz.prog w = .ok 1 w := fun _ => by kernel_rfl
  have hag : ∀ w : World, (isAgg 3).run Tryz.prog w = .ok false w := fun _ => by kernel_rfl
  have hlt : (0 ≤ c ∧ c < ((256 : Nat) : Int)) := ⟨h0, by omega⟩
  unfold Instr.index
  simp only [asIntOf, Sem.run_bind, Sem.run_pure, Result.andThen_ok, run_underlying Tryz.underlying220, if_pos hlt, hz, part, Nat.mul_one]
  simp [hag, hat, Result.andThen]
def octet_Class.f (a0 : Int) : Option Int := if 0 ≤ a0 ∧ a0 ≤ 255 then some ((octClass a0.toNat.toUInt8 : Nat) : Int) else none
set_option maxHeartbeats 4000000 in
set_option maxRecDepth 1000000 in
theorem octet_Class.calls0 (a0 : Int) (h0 : 0 ≤ a0) (h1 : a0 ≤ 255) (w : World) :
    Calls Tryz.prog 202 #[.int .u8 a0] w fun e w' => e = .returned (.int .i64 ((octClass a0.toNat.toUInt8 : Nat) : Int)) ∧ Below w.heap.size w w' := by
  have hix := oct_index a0 h0 h1
  go_enter Tryz.func202, Tryz.ntmps202
  go_wp2_with (go_at_call 204; refine (octet_classes.calls _).mono ?_; rintro e w' ⟨rfl, rfl⟩)
  go_ret
  exact ⟨rfl, (Below.refl _ _).alloc (Nat.le_refl _) _⟩
theorem octet_Class.calls (a0 : Int) (r : Int) (w : World) (h : octet_Class.f a0 = some r) :
    Calls Tryz.prog 202 #[.int .u8 a0] w fun e w' => e = .returned (.int .i64 r) ∧ Below w.heap.size w w' := by
  unfold octet_Class.f at h
  split at h
  · rename_i hc
    obtain rfl := Option.some.inj h
    exact octet_Class.calls0 a0 hc.1 hc.2 w
  · cases h
end Go.Proofs.YtjfcmkddeglghaaGreatDoor.G
end
section
namespace Go.Proofs.YtjfcmkddeglghaaGreatDoor.G
open Go.RowKit Gw Go.Proofs.YtjfcmkddeglghaaGreatDoorW.PrintWords Go.Proofs.YtjfcmkddeglghaaGreatDoorW.PrintLast Go.Proofs.YtjfcmkddeglghaaGreatDoorW.PrintMore
set_option linter.unusedVariables false
set_option linter.unusedSimpArgs false
theorem Ev.of_mono {α : Type} {F : Nat → Option α} {v : α} (hm : ∀ k, LeO (F k) (F (k + 1))) (k : Nat) (h : F k = some v) : Ev F v := by
  refine ⟨k, fun j hj => ?_⟩
  induction j with
  | zero => rw [show (0 : Nat) = k from by omega]; exact h
  | succ j ih =>
    by_cases e : k = j + 1
    · rw [← e]; exact h
    · have h1 := ih (by omega)
      have h2 := hm j
      rw [h1] at h2
      exact h2 _ rfl
theorem refClass_ev (c : UInt8) : Ev (fun k => r01_Class.f k (c.toNat : Int)) ((octClass c : Nat) : Int) := by
  refine Ev.of_mono (fun k => r01_Class.mono _ k) 6 ?_
  have := u8_all (fun c => r01_Class.f 6 (c.toNat : Int) == some ((octClass c : Nat) : Int)) (by decide +kernel) c
  simpa using this
theorem cls_el (c : UInt8) : decide (1 ≤ octClass c ∧ octClass c ≤ 3) = (isDigit c || isLetter c || isMark c) := by
  have := u8_all (fun c => decide (1 ≤ octClass c ∧ octClass c ≤ 3) == (isDigit c || isLetter c || isMark c)) (by decide +kernel) c
  simpa using this
theorem cls_1 (c : UInt8) : decide (octClass c = 1) = isDigit c := by
  have := u8_all (fun c => decide (octClass c = 1) == isDigit c) (by decide +kernel) c
  simpa using this
theorem cls_2 (c : UInt8) : decide (octClass c = 2) = isLetter c := by
  have := u8_all (fun c => decide (octClass c = 2) == isLetter c) (by decide +kernel) c
  simpa using this
theorem toNat_eq (c : UInt8) (n : Nat) (hn : n < 256) : ((c.toNat : Int) = (n : Int)) ↔ c = n.toUInt8 := by
  constructor
  · intro h
    have h1 : c.toNat = n := by omega
    apply UInt8.toNat_inj.1
    rw [h1]
    simp
    omega
  · intro h
    subst h
    simp
    omega
def preP (p : Str) : List Str → List Str
  | [] => [p]
  | h :: t => (p ++ h) :: t
theorem preP_nil (l : List Str) (h : l ≠ []) : preP [] l = l := by
  cases l with
  | nil => exact absurd rfl h
  | cons a t => rfl
theorem preP_cons (p : Str) (c x : UInt8) (s : Str) : preP p (parts c (x :: s)) = if x = c then p :: parts c s else preP (p ++ [x]) (parts c s) := by
  simp only [parts]
  split
  · simp [preP]
  · split
    · rename_i e; exact absurd e (parts_ne c s)
    · rename_i a t e
      simp [preP, e]
theorem refParts_loop (l : Str) (c : UInt8) (h : Sz l) : ∀ n (acc : List ByteArray) (b i : Nat), i + n = l.length → b ≤ i → acc.length ≤ b →
    Ev (fun k => r01_Parts.l0 k (ofL l) (c.toNat : Int) acc (b : Int) (i : Int)) (acc ++ (preP ((l.drop b).take (i - b)) (parts c (l.drop i))).map ofL) := by
  intro n
  induction n with
  | zero =>
    intro acc b i hi hb ha
    unfold Sz at h
    refine Ev.succ ?_
    simp only [r01_Parts.l0]
    refine Ev.neg (by rw [size_ofL]; omega) (Ev.pos (by omega) (Ev.pos (by rw [size_ofL]; omega) (Ev.pos (by omega) (Ev.some_eq ?_))))
    rw [List.drop_of_length_le (by omega : l.length ≤ i), extract_ofL, size_ofL]
    simp only [Int.toNat_natCast]
    have : i = l.length := by omega
    subst this
    simp [parts, preP]
  | succ n ih =>
    intro acc b i hi hb ha
    have hil : i < l.length := by omega
    have hsz : l.length < 4294967281 := h
    refine Ev.succ ?_
    simp only [r01_Parts.l0]
    refine Ev.pos (by rw [size_ofL]; omega) (Ev.pos (by omega) ?_)
    rw [bt_at_ofL l i hil, drop_at _ _ hil, preP_cons, w64n i (by omega)]
    by_cases e : l[i] = c
    · rw [if_pos e]
      refine Ev.pos (by rw [e]) (Ev.pos (by omega) (Ev.pos (by omega) (Ev.pos (by rw [size_ofL]; omega) (Ev.pos (by omega) ?_))))
      refine Ev.val (ih _ (i + 1) (i + 1) (by omega) (by omega) (by simp; omega)) ?_
      rw [Nat.sub_self, List.take_zero, preP_nil _ (parts_ne _ _), extract_ofL]
      simp
    · rw [if_neg e]
      refine Ev.neg (fun hc => e (UInt8.toNat_inj.1 (by omega))) ?_
      refine Ev.val (ih _ b (i + 1) (by omega) (by omega) ha) ?_
      have : (l.drop b).take (i + 1 - b) = (l.drop b).take (i - b) ++ [l[i]] := by
        rw [show i + 1 - b = (i - b) + 1 from by omega, List.take_add_one, List.getElem?_drop, show b + (i - b) = i from by omega, List.getElem?_eq_getElem hil]
        rfl
      rw [this]
theorem refParts_ev (l : Str) (c : UInt8) (h : Sz l) : Ev (fun k => r01_Parts.f k (ofL l) (c.toNat : Int)) ((parts c l).map ofL) := by
  unfold r01_Parts.f
  refine Ev.val (refParts_loop l c h l.length [] 0 0 (by omega) (by omega) (by simp)) ?_
  simp [preP_nil _ (parts_ne c l)]
theorem refElement_loop (s : Str) (h : Sz s) : ∀ n i, i + n = s.length → Ev (fun k => r04_Element.l0 k (ofL s) (i : Int)) ((s.drop i).all fun c => isDigit c || isLetter c || isMark c) := by
  intro n
  induction n with
  | zero =>
    intro i hi
    refine Ev.succ ?_
    simp only [r04_Element.l0]
    refine Ev.neg (by rw [size_ofL]; omega) (Ev.some_eq ?_)
    rw [List.drop_of_length_le (by omega)]
    rfl
  | succ n ih =>
    intro i hi
    have hil : i < s.length := by omega
    have hsz : s.length < 4294967281 := h
    refine Ev.succ ?_
    simp only [r04_Element.l0]
    refine Ev.pos (by rw [size_ofL]; omega) (Ev.pos (by omega) ?_)
    rw [bt_at_ofL s i hil, drop_at _ _ hil, List.all_cons, ← cls_el]
    refine Ev.bind (refClass_ev _) ?_
    by_cases h1 : 1 ≤ octClass s[i]
    · by_cases h2 : octClass s[i] ≤ 3
      · refine Ev.neg (by omega) (Ev.neg (by omega) ?_)
        rw [w64n i (by omega), decide_eq_true ⟨h1, h2⟩, Bool.true_and]
        exact ih (i + 1) (by omega)
      · refine Ev.neg (by omega) (Ev.pos (by omega) (Ev.some_eq ?_))
        simp [h2]
    · refine Ev.pos (by omega) (Ev.some_eq ?_)
      simp [h1]
theorem refElement_ev (s : Str) (h : Sz s) : Ev (fun k => r04_Element.f k (ofL s)) (elemMay s) := by
  unfold r04_Element.f
  have hsz : s.length < 4294967281 := h
  have hj : ∀ b, Ev (fun k => r04_Element.j0 k (ofL s) b) (!b && s.all fun c => isDigit c || isLetter c || isMark c) := by
    intro b
    refine Ev.succ ?_
    simp only [r04_Element.j0]
    cases b
    · exact Ev.neg (by simp) (Ev.val (refElement_loop s h _ 0 (Nat.zero_add _)) (by simp))
    · exact Ev.pos rfl (Ev.some_eq (by simp))
  unfold elemMay
  cases s with
  | nil => exact Ev.pos (by simp [size_ofL]) (Ev.val (hj true) (by simp))
  | cons c t =>
    have hl : 0 < (c :: t).length := by simp
    refine Ev.neg (by rw [size_ofL]; omega) (Ev.pos (by rw [size_ofL]; omega) ?_)
    have hlast : bt (ofL (c :: t)) (wrap64 (((ofL (c :: t)).size : Int) - 1)) = (((c :: t).getLast (by simp)).toNat : Int) := by
      rw [size_ofL, w64 (by omega) (by omega), show (((c :: t).length : Int) - 1) = (((c :: t).length - 1 : Nat) : Int) from by omega, bt_at_ofL _ _ (by omega), List.getLast_eq_getElem]
    have hget : (c :: t).getLast? = some ((c :: t).getLast (by simp)) := List.getLast?_eq_some_getLast (by simp)
    rw [bt_ofL, hget, hlast, size_ofL, w64 (by omega) (by omega)]
    generalize (c :: t).getLast (by simp) = d
    have e46 : ∀ x : UInt8, ((x.toNat : Int) = 46) ↔ x = 46 := fun x => toNat_eq x 46 (by omega)
    by_cases hc : c = 46
    · exact Ev.pos ((e46 c).2 hc) (Ev.val (hj true) (by simp [hc]))
    · refine Ev.neg (fun hh => hc ((e46 c).1 hh)) (Ev.pos (by omega) (Ev.pos (by omega) (Ev.val (hj _) ?_)))
      have : ((d.toNat : Int) == 46) = (d == 46) := by
        by_cases hd : d = 46
        · subst hd; rfl
        · have h1 : ((d.toNat : Int) == 46) = false := by simpa using fun hh => hd ((e46 d).1 hh)
          rw [h1]; simpa using hd
      rw [this]
      have a1 : ((c :: t) != []) = true := by simp
      have a2 : ((c :: t).head? != some 46) = true := by simpa using hc
      have a3 : (some d != some (46 : UInt8)) = !(d == 46) := rfl
      rw [a1, a2, a3]
      simp only [Bool.true_and]
theorem sz_parts (c : UInt8) (p : Str) (h : Sz p) : ∀ s ∈ parts c p, Sz s := fun s hs => by
  have := parts_mem_le c p s hs
  unfold Sz at *; omega
theorem refPath_loop (L : List Str) (hL : ∀ s ∈ L, Sz s) (hl : L.length < 9223372036854775807) : ∀ n i, i + n = L.length → Ev (fun k => r04_May.l0 k (L.map ofL) (i : Int)) ((L.drop i).all elemMay) := by
  intro n
  induction n with
  | zero =>
    intro i hi
    refine Ev.succ ?_
    simp only [r04_May.l0]
    refine Ev.neg (by rw [List.length_map]; omega) (Ev.some_eq ?_)
    rw [List.drop_of_length_le (by omega)]
    rfl
  | succ n ih =>
    intro i hi
    have hil : i < L.length := by omega
    refine Ev.succ ?_
    simp only [r04_May.l0]
    refine Ev.pos (by rw [List.length_map]; omega) (Ev.pos (by omega) ?_)
    rw [rdOf_at _ _ _ (by rw [List.length_map]; exact hil), List.getElem_map, drop_at _ _ hil, List.all_cons]
    refine Ev.bind (refElement_ev _ (hL _ (List.getElem_mem hil))) ?_
    cases he : elemMay L[i]
    · exact Ev.neg (by simp) (Ev.some_eq (by simp))
    · refine Ev.pos rfl ?_
      rw [w64n i (by omega), Bool.true_and]
      exact ih (i + 1) (by omega)
theorem refPath_ev (p : Str) (h : Sz p) : Ev (fun k => r04_May.f k (ofL p)) (pathMay p) := by
  unfold r04_May.f
  refine Ev.bind (refParts_ev p 47 h) ?_
  have := parts_len 47 p
  exact Ev.val (refPath_loop (parts 47 p) (sz_parts 47 p h) (by unfold Sz at h; omega) _ 0 (Nat.zero_add _)) rfl
def digR (c : UInt8) : Int := if isDigit c then (c.toNat : Int) - 48 else -1
theorem refDigit_eq (c : UInt8) : r02_digit.f (c.toNat : Int) = some (digR c) := by
  have := u8_all (fun c => r02_digit.f (c.toNat : Int) == some (digR c)) (by decide +kernel) c
  simpa using this
theorem digR_neg (c : UInt8) : decide (digR c < 0) = !isDigit c := by
  have := u8_all (fun c => decide (digR c < 0) == !isDigit c) (by decide +kernel) c
  simpa using this
theorem refNum_loop (s : Str) (h : Sz s) : ∀ n i, i + n = s.length → Ev (fun k => r02_May.l0 k (ofL s) (i : Int)) ((s.drop i).all isDigit && (s.length == 1 || decide (1 < s.length) && s.head? != some 48)) := by
  intro n
  have hsz : s.length < 4294967281 := h
  induction n with
  | zero =>
    intro i hi
    refine Ev.succ ?_
    simp only [r02_May.l0]
    refine Ev.neg (by rw [size_ofL]; omega) ?_
    rw [List.drop_of_length_le (by omega), size_ofL]
    by_cases h1 : s.length = 1
    · exact Ev.pos (by omega) (Ev.some_eq (by simp [h1]))
    · refine Ev.neg (by omega) ?_
      by_cases h2 : 1 < s.length
      · refine Ev.pos (by omega) (Ev.pos (by omega) (Ev.some_eq ?_))
        cases s with
        | nil => simp at h2
        | cons c t =>
          rw [bt_ofL]
          have e48 := toNat_eq c 48 (by omega)
          by_cases hc : c = 48
          · subst hc; simp at h1 ⊢
            exact fun hh => absurd hh h1
          · have : ((c.toNat : Int) != 48) = true := by simpa using fun hh => hc (e48.1 hh)
            rw [this]
            simp only [List.length_cons] at h2
            simp [hc, h2]
      · refine Ev.neg (by omega) (Ev.some_eq ?_)
        simp [h1, h2]
  | succ n ih =>
    intro i hi
    have hil : i < s.length := by omega
    refine Ev.succ ?_
    simp only [r02_May.l0]
    refine Ev.pos (by rw [size_ofL]; omega) (Ev.pos (by omega) ?_)
    rw [bt_at_ofL s i hil, drop_at _ _ hil, List.all_cons]
    refine Ev.bindc (refDigit_eq _) ?_
    have hd := digR_neg s[i]
    cases hb : isDigit s[i]
    · rw [hb] at hd
      exact Ev.pos (of_decide_eq_true hd) (Ev.some_eq (by simp))
    · rw [hb] at hd
      refine Ev.neg (of_decide_eq_false hd) ?_
      rw [w64n i (by omega), Bool.true_and]
      exact ih (i + 1) (by omega)
theorem refNum_ev (s : Str) (h : Sz s) : Ev (fun k => r02_May.f k (ofL s)) (numMay s) := by
  unfold r02_May.f
  exact Ev.val (refNum_loop s h _ 0 (Nat.zero_add _)) rfl
theorem refWord_loop (s : Str) (h : Sz s) : ∀ n i (b : Bool), i + n = s.length →
    Ev (fun k => r03_Word.l0 k (ofL s) b (i : Int)) ((s.drop i).all (fun c => isDigit c || isLetter c || c == 45) && (s != [] && (numMay s || !(b && (s.drop i).all isDigit)))) := by
  intro n
  have hsz : s.length < 4294967281 := h
  induction n with
  | zero =>
    intro i b hi
    refine Ev.succ ?_
    simp only [r03_Word.l0]
    refine Ev.neg (by rw [size_ofL]; omega) ?_
    rw [List.drop_of_length_le (by omega), size_ofL]
    cases s with
    | nil => exact Ev.neg (by simp) (Ev.some_eq (by simp))
    | cons c t =>
      refine Ev.pos (by simp) ?_
      cases b
      · exact Ev.neg (by simp) (Ev.some_eq (by simp))
      · refine Ev.pos rfl (Ev.bind (refNum_ev _ h) (Ev.some_eq ?_))
        simp
  | succ n ih =>
    intro i b hi
    have hil : i < s.length := by omega
    refine Ev.succ ?_
    simp only [r03_Word.l0]
    refine Ev.pos (by rw [size_ofL]; omega) (Ev.pos (by omega) ?_)
    rw [bt_at_ofL s i hil, drop_at _ _ hil, List.all_cons, List.all_cons]
    refine Ev.bind (refClass_ev _) ?_
    have c1 := cls_1 s[i]
    have c2 := cls_2 s[i]
    have e45 := toNat_eq s[i] 45 (by omega)
    generalize s[i] = c at c1 c2 e45
    rw [w64n i (by omega)]
    by_cases h1 : octClass c = 1
    · rw [decide_eq_true h1] at c1
      refine Ev.pos (by omega) (Ev.val (ih (i + 1) b (by omega)) ?_)
      simp [← c1]
    · rw [decide_eq_false h1] at c1
      refine Ev.neg (by omega) ?_
      by_cases h2 : octClass c = 2
      · rw [decide_eq_true h2] at c2
        refine Ev.pos (by omega) (Ev.val (ih (i + 1) false (by omega)) ?_)
        simp [← c1, ← c2]
      · rw [decide_eq_false h2] at c2
        refine Ev.neg (by omega) ?_
        by_cases h3 : c = 45
        · refine Ev.pos (e45.2 h3) (Ev.val (ih (i + 1) false (by omega)) ?_)
          have h4 : (c == 45) = true := by simpa using h3
          simp [← c1, ← c2, h4]
        · refine Ev.neg (fun hh => h3 (e45.1 hh)) (Ev.some_eq ?_)
          have h4 : (c == 45) = false := by simpa using h3
          simp [← c1, ← c2, h4]
theorem refWord_ev (s : Str) (h : Sz s) : Ev (fun k => r03_Word.f k (ofL s)) (wordMay s) := by
  unfold r03_Word.f
  refine Ev.val (refWord_loop s h _ 0 true (Nat.zero_add _)) ?_
  unfold wordMay
  rw [List.drop_zero]
  cases (s != []) <;> cases s.all (fun c => isDigit c || isLetter c || c == 45) <;> simp
end Go.Proofs.YtjfcmkddeglghaaGreatDoor.G
end
section
namespace Go.Proofs.YtjfcmkddeglghaaGreatDoor.G
open Go.RowKit Gw Go.Proofs.YtjfcmkddeglghaaGreatDoorW.PrintWords Go.Proofs.YtjfcmkddeglghaaGreatDoorW.PrintLast Go.Proofs.YtjfcmkddeglghaaGreatDoorW.PrintMore
set_option linter.unusedVariables false
set_option linter.unusedSimpArgs false
def refOut : Option Ver → ByteArray × ByteArray × ByteArray × List ByteArray × Bool
  | some v => (ofL v.major, ofL v.minor, ofL v.patch, v.pre.map ofL, true)
  | none => (⟨#[]⟩, ⟨#[]⟩, ⟨#[]⟩, [], false)
theorem refSplit_words (L : List Str) (a b c : ByteArray) (hL : ∀ s ∈ L, Sz s) (hl : L.length < 9223372036854775807) : ∀ n i, i + n = L.length →
    Ev (fun k => r03_Split.l1 k (i : Int) a b c (L.map ofL)) (if (L.drop i).all wordMay then (a, b, c, L.map ofL, true) else refOut none) := by
  intro n
  induction n with
  | zero =>
    intro i hi
    refine Ev.succ ?_
    simp only [r03_Split.l1]
    refine Ev.neg (by rw [List.length_map]; omega) (Ev.some_eq ?_)
    rw [List.drop_of_length_le (by omega)]
    rfl
  | succ n ih =>
    intro i hi
    have hil : i < L.length := by omega
    refine Ev.succ ?_
    simp only [r03_Split.l1]
    refine Ev.pos (by rw [List.length_map]; omega) (Ev.pos (by omega) ?_)
    rw [rdOf_at _ _ _ (by rw [List.length_map]; exact hil), List.getElem_map, drop_at _ _ hil, List.all_cons]
    refine Ev.bind (refWord_ev _ (hL _ (List.getElem_mem hil))) ?_
    cases he : wordMay L[i]
    · exact Ev.neg (by simp) (Ev.some_eq (by simp [refOut]))
    · refine Ev.pos rfl ?_
      rw [w64n i (by omega), Bool.true_and]
      exact ih (i + 1) (by omega)
def cutAt (s : Str) (i : Nat) : Nat := i + ((s.drop i).takeWhile (· != 45)).length
theorem refSplit_scan (s : Str) (h : Sz s) (v : ByteArray × ByteArray × ByteArray × List ByteArray × Bool)
    (hv : Ev (fun k => r03_Split.l0 k (ofL s) ((cutAt s 0 : Nat) : Int) (-1) ⟨#[]⟩ ⟨#[]⟩ ⟨#[]⟩) v) : ∀ i, i ≤ s.length →
    Ev (fun k => r03_Split.l0 k (ofL s) ((cutAt s i : Nat) : Int) ((i : Int) - 1) ⟨#[]⟩ ⟨#[]⟩ ⟨#[]⟩) v := by
  have hsz : s.length < 4294967281 := h
  intro i
  induction i with
  | zero => intro _; exact hv
  | succ i ih =>
    intro hi
    have hil : i < s.length := by omega
    refine Ev.succ ?_
    simp only [r03_Split.l0]
    have e1 : ((i + 1 : Nat) : Int) - 1 = (i : Int) := by omega
    rw [e1]
    refine Ev.pos (by omega) (Ev.pos (by omega) (Ev.pos (by rw [size_ofL]; omega) ?_))
    rw [bt_at_ofL s i hil, w64 (by omega) (by omega)]
    have e45 := toNat_eq s[i] 45 (by omega)
    have hd := drop_at s i hil
    by_cases hc : s[i] = 45
    · refine Ev.pos (e45.2 hc) ?_
      have : cutAt s i = i := by
        unfold cutAt
        rw [hd, List.takeWhile_cons_of_neg (by simp [hc])]
        simp
      have ih' := ih (by omega)
      rw [this] at ih'
      exact ih'
    · refine Ev.neg (fun hh => hc (e45.1 hh)) ?_
      have : cutAt s i = cutAt s (i + 1) := by
        unfold cutAt
        rw [hd, List.takeWhile_cons_of_pos (by simp [hc])]
        simp
        omega
      have ih' := ih (by omega)
      rw [this] at ih'
      exact ih'
theorem refSplit_no (s : ByteArray) (x5 : Int) (L : List ByteArray) : Ev (fun k => r03_Split.j2 k s x5 L true ⟨#[]⟩ ⟨#[]⟩ ⟨#[]⟩) (refOut none) := by
  refine Ev.succ ?_
  simp only [r03_Split.j2]
  exact Ev.pos (by simp) (Ev.some_ _)
theorem refSplit_ev (s : Str) (h : Sz s) : Ev (fun k => r03_Split.f k (ofL s)) (refOut (verSplit s)) := by
  have hsz : s.length < 4294967281 := h
  unfold r03_Split.f
  have hj1 : Ev (fun k => r03_Split.j0 k (ofL s) true ⟨#[]⟩ ⟨#[]⟩ ⟨#[]⟩) (refOut none) := by
    refine Ev.succ ?_
    simp only [r03_Split.j0]
    exact Ev.pos (by simp) (Ev.some_ _)
  cases s with
  | nil => exact Ev.pos (by simp [size_ofL]) hj1
  | cons c r =>
    refine Ev.neg (by rw [size_ofL]; simp; omega) (Ev.pos (by rw [size_ofL]; simp) ?_)
    rw [bt_ofL]
    have e118 := toNat_eq c 118 (by omega)
    by_cases hc : c = 118
    · subst hc
      have : (((118 : UInt8).toNat : Int) != 118) = false := rfl
      rw [this]
      refine Ev.succ ?_
      simp only [r03_Split.j0]
      refine Ev.neg (by simp) ?_
      have hr : Sz r := by unfold Sz at *; simp at h; omega
      have hlen : (118 :: r).length = r.length + 1 := rfl
      have hcl : cutAt (118 :: r) (118 :: r).length = (118 :: r).length := by unfold cutAt; rw [List.drop_of_length_le (Nat.le_refl _)]; rfl
      have hc0 : cutAt (118 :: r) 0 = (r.takeWhile (· != 45)).length + 1 := by
        unfold cutAt
        rw [List.drop_zero, List.takeWhile_cons_of_pos (by decide)]
        simp
      have go := refSplit_scan (118 :: r) h (refOut (verSplit (118 :: r))) ?_ (118 :: r).length (Nat.le_refl _)
      · rw [hcl] at go
        rw [size_ofL, w64 (by omega) (by omega)]
        exact go
      refine Ev.succ ?_
      simp only [r03_Split.l0]
      refine Ev.neg (by omega) ?_
      rw [hc0]
      have htl : (r.takeWhile (· != 45)).length ≤ r.length := (List.takeWhile_sublist (fun x : UInt8 => x != 45) (l := r)).length_le
      refine Ev.pos (by omega) (Ev.pos (by rw [size_ofL, hlen]; omega) ?_)
      have hsplit : r.takeWhile (· != 45) ++ r.dropWhile (· != 45) = r := List.takeWhile_append_dropWhile
      have ht : Sz (r.takeWhile (· != 45)) := by unfold Sz at *; omega
      have hd : (r.dropWhile (· != 45)).length ≤ r.length := (List.dropWhile_sublist (fun x : UInt8 => x != 45) (l := r)).length_le
      have ex : (ofL (118 :: r)).extract 1 (((r.takeWhile (· != 45)).length + 1 : Nat) : Int).toNat = ofL (r.takeWhile (· != 45)) := by
        rw [extract_ofL, Int.toNat_natCast, Nat.add_sub_cancel]
        congr 1
        show r.take _ = _
        conv => lhs; arg 2; rw [← hsplit]
        exact List.take_left
      rw [ex]
      refine Ev.bind (refParts_ev _ 46 ht) ?_
      have hsp := sz_parts 46 _ ht
      have hv : verSplit (118 :: r) = match parts 46 (r.takeWhile (· != 45)) with
        | [a, b, c] => if numMay a && numMay b && numMay c then (match r.dropWhile (· != 45) with
            | [] => some ⟨a, b, c, []⟩
            | _ :: q => if (parts 46 q).all wordMay then some ⟨a, b, c, parts 46 q⟩ else none) else none
        | _ => none := rfl
      rw [hv]
      clear hv ex hc0 hcl
      have hlen2 : (r.takeWhile (· != 45)).length + (r.dropWhile (· != 45)).length = r.length := by rw [← List.length_append, hsplit]
      have hdrop : r.drop (r.takeWhile (· != 45)).length = r.dropWhile (· != 45) := by
        conv => lhs; arg 2; rw [← hsplit]
        exact List.drop_left
      generalize (r.takeWhile (· != 45)).length = T at htl hlen2 hdrop ⊢
      generalize parts 46 (r.takeWhile (· != 45)) = P at hsp ⊢
      generalize r.dropWhile (· != 45) = D at hd hlen2 hdrop ⊢
      have hno := fun L => refSplit_no (ofL (118 :: r)) ((T + 1 : Nat) : Int) L
      match P, hsp with
      | [], _ => exact Ev.neg (by simp) (hno _)
      | [_], _ => exact Ev.neg (by simp) (hno _)
      | [_, _], _ => exact Ev.neg (by simp) (hno _)
      | _ :: _ :: _ :: _ :: _, _ => exact Ev.neg (by simp; omega) (hno _)
      | [a, b, c], hsp =>
        have ha : Sz a := hsp a (by simp)
        have hb : Sz b := hsp b (by simp)
        have hc : Sz c := hsp c (by simp)
        show Ev _ (refOut (if (numMay a && numMay b && numMay c) = true then (match (generalizing := false) D with
            | [] => some ⟨a, b, c, []⟩
            | _ :: q => if (parts 46 q).all wordMay then some ⟨a, b, c, parts 46 q⟩ else none) else none))
        have r0 : rdOf ByteArray.empty ([a, b, c].map ofL) 0 = ofL a := rfl
        have r1 : rdOf ByteArray.empty ([a, b, c].map ofL) 1 = ofL b := rfl
        have r2 : rdOf ByteArray.empty ([a, b, c].map ofL) 2 = ofL c := rfl
        refine Ev.pos (by simp) (Ev.pos (by simp) ?_)
        rw [r0]
        refine Ev.bind (refNum_ev a ha) ?_
        cases numMay a
        · exact Ev.neg (by simp) (Ev.val (hno _) (by simp))
        refine Ev.pos rfl (Ev.pos (by simp) ?_)
        rw [r1]
        refine Ev.bind (refNum_ev b hb) ?_
        cases numMay b
        · exact Ev.neg (by simp) (Ev.val (hno _) (by simp))
        refine Ev.pos rfl (Ev.pos (by simp) ?_)
        rw [r2]
        refine Ev.bind (refNum_ev c hc) ?_
        cases numMay c
        · exact Ev.val (hno _) (by simp)
        simp only [Bool.and_self, if_true, Bool.not_true]
        refine Ev.succ ?_
        simp only [r03_Split.j2]
        refine Ev.neg (by simp) (Ev.pos (by simp) (Ev.pos (by simp) (Ev.pos (by simp) ?_)))
        rw [r0, r1, r2, size_ofL, hlen]
        cases D with
        | nil =>
          simp only [List.length_nil] at hlen2
          exact Ev.pos (by omega) (Ev.some_ _)
        | cons x q =>
          simp only [List.length_cons] at hlen2 hd
          refine Ev.neg (by omega) ?_
          rw [w64n (T + 1) (by omega)]
          refine Ev.pos (by omega) (Ev.pos (by omega) ?_)
          have hq : Sz q := by unfold Sz at *; omega
          have ex2 : (ofL (118 :: r)).extract ((T + 1 + 1 : Nat) : Int).toNat (r.length + 1) = ofL q := by
            rw [extract_ofL, Int.toNat_natCast]
            congr 1
            show (r.drop (T + 1)).take _ = _
            rw [← List.drop_drop, hdrop]
            show q.take _ = q
            exact List.take_of_length_le (by omega)
          rw [ex2]
          refine Ev.bind (refParts_ev q 46 hq) ?_
          have := parts_len 46 q
          have h2 := refSplit_words (parts 46 q) (ofL a) (ofL b) (ofL c) (sz_parts 46 q hq) (by unfold Sz at hq; omega) _ 0 (Nat.zero_add _)
          refine Ev.val h2 ?_
          rw [List.drop_zero]
          show _ = refOut (if (parts 46 q).all wordMay = true then some ⟨a, b, c, parts 46 q⟩ else none)
          cases (parts 46 q).all wordMay <;> rfl
    · have h1 : ((c.toNat : Int) != 118) = true := by simpa using fun hh => hc (e118.1 hh)
      rw [h1]
      refine Ev.val hj1 ?_
      have : verSplit (c :: r) = none := by
        unfold verSplit
        split
        · rename_i e; injection e with e1 _; exact absurd e1 hc
        · rfl
      rw [this]
theorem refVer_ev (s : Str) (h : Sz s) : Ev (fun k => r03_May.f k (ofL s)) (verMay s) := by
  unfold r03_May.f
  refine Ev.bind (refSplit_ev s h) (Ev.some_eq ?_)
  unfold verMay
  cases verSplit s <;> rfl
theorem refNode_ev (p v : Str) (hp : Sz p) (hv : Sz v) : Ev (fun k => r05_May.f k (ofL p) (ofL v)) (ndMay (p, v)) := by
  unfold r05_May.f
  refine Ev.bind (refPath_ev p hp) ?_
  unfold ndMay
  cases pathMay p
  · exact Ev.neg (by simp) (Ev.some_ _)
  · refine Ev.pos rfl (Ev.bind (refVer_ev v hv) (Ev.some_ _))
end Go.Proofs.YtjfcmkddeglghaaGreatDoor.G
end
section
namespace Go.Proofs.YtjfcmkddeglghaaGreatDoor.G
open Go.RowKit Go.Proofs.YtjfcmkddeglghaaGreatDoorW.PrintWords Go.Proofs.YtjfcmkddeglghaaGreatDoorW.PrintLast
set_option linter.unusedVariables false
set_option linter.unusedSimpArgs false
def stringslite_IndexByte.f (a0 : ByteArray) (a1 : Int) : Option Int := some (Lib.indexByte a0.data.toList a1.toNat.toUInt8)
set_option maxHeartbeats 1000000 in
set_option maxRecDepth 100000 in
theorem stringslite_IndexByte.exact (a0 : ByteArray) (a1 : Int) (r : Int) (w : World) (h : stringslite_IndexByte.f a0 a1 = some r) :
    Calls Tryz.prog 210 #[.string a0, .int .u8 a1] w fun e w' => e = .returned (.int .i64 r) ∧ w' = w := by
  unfold stringslite_IndexByte.f at h
  obtain rfl := Option.some.inj h
  clear h
  go_enter Tryz.func210, Tryz.ntmps210
  go_wp2
  rw [run_callFunc_extern Tryz.func221 (by kernel_rfl) (by kernel_rfl) (by kernel_rfl) (e := Extern.BytealgIndexByte.indexByte) (by kernel_rfl), Lib.run_indexByteString]
  simp only [Result.andThen]
  rw [Oper.upon_value]
  go_wp2
  go_ret
  exact ⟨rfl, rfl⟩
theorem stringslite_IndexByte.calls (a0 : ByteArray) (a1 : Int) (r : Int) (w : World) (h : stringslite_IndexByte.f a0 a1 = some r) :
    Calls Tryz.prog 210 #[.string a0, .int .u8 a1] w fun e w' => e = .returned (.int .i64 r) ∧ Drawn0 w w' :=
  (stringslite_IndexByte.exact a0 a1 r w h).mono fun e w' hh => ⟨hh.1, hh.2 ▸ Drawn0.refl _⟩
def stringslite_Index.f (a0 a1 : ByteArray) : Option Int := if a1.size = 1 ∧ a0.size ≤ 9223372036854775807 then some (Lib.indexByte a0.data.toList (bt a1 0).toNat.toUInt8) else none
set_option maxHeartbeats 1000000 in
set_option maxRecDepth 100000 in
theorem stringslite_Index.exact (a0 a1 : ByteArray) (r : Int) (w : World) (h : stringslite_Index.f a0 a1 = some r) :
    Calls Tryz.prog 203 #[.string a0, .string a1] w fun e w' => e = .returned (.int .i64 r) ∧ w' = w := by
  unfold stringslite_Index.f at h
  split at h
  · rename_i hc
    obtain ⟨h1, h2⟩ := hc
    obtain rfl := Option.some.inj h
    clear h
    obtain ⟨l⟩ := a1
    obtain ⟨l⟩ := l
    obtain ⟨c, rfl⟩ : ∃ c, l = [c] := by
      have : l.length = 1 := h1
      match l, this with
      | [c], _ => exact ⟨c, rfl⟩
    clear h1
    have hb : bt (⟨⟨[c]⟩⟩ : ByteArray) 0 = (c.toNat : Int) := rfl
    rw [hb]
    clear hb
    go_enter Tryz.func203, Tryz.ntmps203
    go_wp2_with (go_at_call 210; refine (stringslite_IndexByte.exact _ _ _ _ rfl).mono ?_; rintro e w' ⟨rfl, hw⟩; subst hw)
    · rename_i hs
      have hs : a0.data.toList = [c] := by
        rw [← ByteArray.toList_eq]; exact (beq_iff_eq.1 hs).symm
      go_ret
      exact ⟨by simp [hs, Lib.indexByte], rfl⟩
    · go_ret
      exact ⟨(show Ending.returned (.int .i64 (Lib.indexByte a0.data.toList c)) = Ending.returned (.int .i64 (Lib.indexByte a0.data.toList (c.toNat : Int).toNat.toUInt8)) by simp), rfl⟩
  · cases h
theorem stringslite_Index.calls (a0 a1 : ByteArray) (r : Int) (w : World) (h : stringslite_Index.f a0 a1 = some r) :
    Calls Tryz.prog 203 #[.string a0, .string a1] w fun e w' => e = .returned (.int .i64 r) ∧ Drawn0 w w' :=
  (stringslite_Index.exact a0 a1 r w h).mono fun e w' hh => ⟨hh.1, hh.2 ▸ Drawn0.refl _⟩
def strings_Count.f (a0 a1 : ByteArray) : Option Int := if a1.size = 1 then some ((Lib.countByte a0.data.toList (bt a1 0).toNat.toUInt8 : Nat) : Int) else none
set_option maxHeartbeats 1000000 in
set_option maxRecDepth 100000 in
theorem strings_Count.exact (a0 a1 : ByteArray) (r : Int) (w : World) (h : strings_Count.f a0 a1 = some r) :
    Calls Tryz.prog 208 #[.string a0, .string a1] w fun e w' => e = .returned (.int .i64 r) ∧ w' = w := by
  unfold strings_Count.f at h
  split at h
  · rename_i h1
    obtain rfl := Option.some.inj h
    clear h
    obtain ⟨l⟩ := a1
    obtain ⟨l⟩ := l
    obtain ⟨c, rfl⟩ : ∃ c, l = [c] := by
      have : l.length = 1 := h1
      match l, this with
      | [c], _ => exact ⟨c, rfl⟩
    clear h1
    have hb : bt (⟨⟨[c]⟩⟩ : ByteArray) 0 = (c.toNat : Int) := rfl
    rw [hb]
    clear hb
    go_enter Tryz.func208, Tryz.ntmps208
    go_wp2
    rw [run_callFunc_extern Tryz.func220 (by kernel_rfl) (by kernel_rfl) (by kernel_rfl) (e := Extern.BytealgCount.count) (by kernel_rfl), Lib.run_countString]
    simp only [Result.andThen]
    rw [Oper.upon_value]
    go_wp2
    go_ret
    exact ⟨(show Ending.returned (.int .i64 ((Lib.countByte a0.data.toList c : Nat) : Int)) = Ending.returned (.int .i64 ((Lib.countByte a0.data.toList (c.toNat : Int).toNat.toUInt8 : Nat) : Int)) by simp), rfl⟩
  · cases h
theorem strings_Count.calls (a0 a1 : ByteArray) (r : Int) (w : World) (h : strings_Count.f a0 a1 = some r) :
    Calls Tryz.prog 208 #[.string a0, .string a1] w fun e w' => e = .returned (.int .i64 r) ∧ Drawn0 w w' :=
  (strings_Count.exact a0 a1 r w h).mono fun e w' hh => ⟨hh.1, hh.2 ▸ Drawn0.refl _⟩
def strings_explode.f (a0 : ByteArray) (a1 : Int) : Option (List ByteArray) := none
theorem strings_explode.calls (a0 : ByteArray) (a1 : Int) (r : List ByteArray) (w : World) (h : strings_explode.f a0 a1 = some r) :
    Calls Tryz.prog 207 #[.string a0, .int .i64 a1] w fun e w' => ∃ v0_ : Value, e = .returned v0_ ∧ Kd.R Kd.string 9 w' w.heap.size (fun _ => True) v0_ r ∧ Below w.heap.size w w' := by
  cases h
end Go.Proofs.YtjfcmkddeglghaaGreatDoor.G
end
section
namespace Go.Proofs
open Go.Shelf
def Tryz.lays153_ren : Go.Shelf.Ren := ⟨fun | 153 => 205 | 152 => 214 | 226 => 215 | 227 => 216 | 228 => 217 | 137 => 223 | 119 => 224 | 224 => 212 | 225 => 211 | 217 => 210 | 266 => 221 | n => n, fun | 9 => 9 | 3 => 3 | 4 => 4 | 5 => 5 | 21 => 21 | 117 => 231 | 116 => 230 | 0 => 0 | 46 => 142 | 124 => 240 | n => n, fun | n => n⟩
theorem Tryz.lays153 : Go.Proofs.Lays.n153 Tryz.prog Tryz.lays153_ren := {
  mixed := by kernel_rfl
  f119 := Tryz.func224.trans (congrArg some (by kernel_rfl))
  f137 := Tryz.func223.trans (congrArg some (by kernel_rfl))
  f152 := Tryz.func214.trans (congrArg some (by kernel_rfl))
  f153 := Tryz.func205.trans (congrArg some (by kernel_rfl))
  f217 := Tryz.func210.trans (congrArg some (by kernel_rfl))
  f224 := Tryz.func212.trans (congrArg some (by kernel_rfl))
  f225 := Tryz.func211.trans (congrArg some (by kernel_rfl))
  f226 := Tryz.func215.trans (congrArg some (by kernel_rfl))
  f227 := Tryz.func216.trans (congrArg some (by kernel_rfl))
  f228 := Tryz.func217.trans (congrArg some (by kernel_rfl))
  f266 := Tryz.func221.trans (congrArg some (by kernel_rfl))
  t0 := Tryz.underlying0
  a0 := Tryz.isAgg0
  z0 := Tryz.sizeOf0
  v0 := Tryz.zeroValue0
  t3 := Tryz.underlying3
  a3 := Tryz.isAgg3
  z3 := Tryz.sizeOf3
  v3 := Tryz.zeroValue3
  t4 := Tryz.underlying4
  a4 := Tryz.isAgg4
  z4 := Tryz.sizeOf4
  v4 := Tryz.zeroValue4
  t5 := Tryz.underlying5
  a5 := Tryz.isAgg5
  z5 := Tryz.sizeOf5
  v5 := Tryz.zeroValue5
  t9 := Tryz.underlying9
  a9 := Tryz.isAgg9
  z9 := Tryz.sizeOf9
  v9 := Tryz.zeroValue9
  t21 := Tryz.underlying21
  a21 := Tryz.isAgg21
  z21 := Tryz.sizeOf21
  v21 := Tryz.zeroValue21
  t46 := Tryz.underlying142
  a46 := Tryz.isAgg142
  z46 := Tryz.sizeOf142
  v46 := Tryz.zeroValue142
  t116 := Tryz.underlying230
  a116 := Tryz.isAgg230
  z116 := Tryz.sizeOf230
  t117 := Tryz.underlying231
  a117 := Tryz.isAgg231
  z117 := Tryz.sizeOf231
  v117 := Tryz.zeroValue231
  t124 := Tryz.underlying240
  a124 := Tryz.isAgg240
  z124 := Tryz.sizeOf240
  v124 := Tryz.zeroValue240 }
def Tryz.lays221_ren : Go.Shelf.Ren := ⟨fun | 221 => 201 | 268 => 207 | 138 => 208 | 143 => 209 | 195 => 218 | 197 => 219 | 218 => 220 | 219 => 203 | 260 => 225 | 217 => 210 | 225 => 211 | 224 => 212 | 267 => 213 | 266 => 221 | 314 => 222 | n => n, fun | 9 => 9 | 3 => 3 | 31 => 122 | 4 => 4 | 0 => 0 | 105 => 235 | 21 => 21 | 5 => 5 | 46 => 142 | 119 => 241 | 139 => 244 | 138 => 243 | 146 => 237 | 51 => 179 | n => n, fun | 1 => 0 | 3 => 1 | 4 => 2 | n => n⟩
theorem Tryz.lays221 : Go.Proofs.Lays.n221 Tryz.prog Tryz.lays221_ren := {
  mixed := by kernel_rfl
  f138 := Tryz.func208.trans (congrArg some (by kernel_rfl))
  f143 := Tryz.func209.trans (congrArg some (by kernel_rfl))
  f195 := Tryz.func218.trans (congrArg some (by kernel_rfl))
  f197 := Tryz.func219.trans (congrArg some (by kernel_rfl))
  f217 := Tryz.func210.trans (congrArg some (by kernel_rfl))
  f218 := Tryz.func220.trans (congrArg some (by kernel_rfl))
  f219 := Tryz.func203.trans (congrArg some (by kernel_rfl))
  f221 := Tryz.func201.trans (congrArg some (by kernel_rfl))
  f224 := Tryz.func212.trans (congrArg some (by kernel_rfl))
  f225 := Tryz.func211.trans (congrArg some (by kernel_rfl))
  f260 := Tryz.func225.trans (congrArg some (by kernel_rfl))
  f266 := Tryz.func221.trans (congrArg some (by kernel_rfl))
  f267 := Tryz.func213.trans (congrArg some (by kernel_rfl))
  f268 := Tryz.func207.trans (congrArg some (by kernel_rfl))
  f314 := Tryz.func222.trans (congrArg some (by kernel_rfl))
  t0 := Tryz.underlying0
  a0 := Tryz.isAgg0
  z0 := Tryz.sizeOf0
  v0 := Tryz.zeroValue0
  t3 := Tryz.underlying3
  a3 := Tryz.isAgg3
  z3 := Tryz.sizeOf3
  v3 := Tryz.zeroValue3
  t4 := Tryz.underlying4
  a4 := Tryz.isAgg4
  z4 := Tryz.sizeOf4
  v4 := Tryz.zeroValue4
  t5 := Tryz.underlying5
  a5 := Tryz.isAgg5
  z5 := Tryz.sizeOf5
  v5 := Tryz.zeroValue5
  t9 := Tryz.underlying9
  a9 := Tryz.isAgg9
  z9 := Tryz.sizeOf9
  v9 := Tryz.zeroValue9
  t21 := Tryz.underlying21
  a21 := Tryz.isAgg21
  z21 := Tryz.sizeOf21
  v21 := Tryz.zeroValue21
  t31 := Tryz.underlying122
  a31 := Tryz.isAgg122
  z31 := Tryz.sizeOf122
  v31 := Tryz.zeroValue122
  t46 := Tryz.underlying142
  a46 := Tryz.isAgg142
  z46 := Tryz.sizeOf142
  v46 := Tryz.zeroValue142
  t51 := Tryz.underlying179
  a51 := Tryz.isAgg179
  z51 := Tryz.sizeOf179
  v51 := Tryz.zeroValue179
  t105 := Tryz.underlying235
  a105 := Tryz.isAgg235
  z105 := Tryz.sizeOf235
  v105 := Tryz.zeroValue235
  t119 := Tryz.underlying241
  a119 := Tryz.isAgg241
  z119 := Tryz.sizeOf241
  t138 := Tryz.underlying243
  a138 := Tryz.isAgg243
  z138 := Tryz.sizeOf243
  v138 := Tryz.zeroValue243
  t139 := Tryz.underlying244
  a139 := Tryz.isAgg244
  z139 := Tryz.sizeOf244
  v139 := Tryz.zeroValue244
  t146 := Tryz.underlying237
  a146 := Tryz.isAgg237
  z146 := Tryz.sizeOf237
  v146 := Tryz.zeroValue237
  g1 := by kernel_rfl
  g3 := by kernel_rfl
  g4 := by kernel_rfl }
end Go.Proofs
end
section
namespace Go.Proofs.YtjfcmkddeglghaaGreatDoor.G
open Go.RowKit Gw Go.Proofs.YtjfcmkddeglghaaGreatDoorW.PrintWords Go.Proofs.YtjfcmkddeglghaaGreatDoorW.PrintLast
set_option linter.unusedVariables false
set_option linter.unusedSimpArgs false
theorem strings_Index.exact (a0 a1 : ByteArray) (r : Int) (w : World) (h : stringslite_Index.f a0 a1 = some r) :
    Calls Tryz.prog 209 #[.string a0, .string a1] w fun e w' => e = .returned (.int .i64 r) ∧ w' = w := by
  go_enter Tryz.func209, Tryz.ntmps209
  go_wp2_with (go_at_call 203; refine (stringslite_Index.exact _ _ _ _ h).mono ?_; rintro e w' ⟨rfl, hw⟩; rw [hw])
  go_ret
  exact ⟨rfl, rfl⟩
theorem strings_genSplit_one (s : ByteArray) (c : UInt8) (w : World) (hs : s.size < 4294967281) :
    Calls Tryz.prog 201 #[.string s, .string (ofL [c]), .int .i64 0, .int .i64 (-1)] w fun e w' =>
      e = .returned (.slice (some ⟨w.heap.size, 0, none⟩) (s.data.toList.count c + 1) (s.data.toList.count c + 1)) ∧ w' = w.alloc (.cells ((Lib.splitB (ofL [c]) 0 (s.data.toList.count c) s).map Value.string).toArray 9) := by
  have h1 : (ofL [c]).size = 1 := rfl
  have hb : bt (ofL [c]) 0 = (c.toNat : Int) := rfl
  have hcn : Lib.countB s (ofL [c]) = s.data.toList.count c := Lib.count_one c _
  have hC : Calls Tryz.prog 208 #[.string s, .string (ofL [c])] w fun e w' => e = .returned (.int .i64 (Lib.countB s (ofL [c]))) ∧ w' = w := by
    rw [hcn]
    refine strings_Count.exact _ _ _ _ ?_
    unfold strings_Count.f
    rw [if_pos h1, hb]
    simp [Lib.countByte]
  have hI : ∀ (x : ByteArray) (cs : Array Value), x.size ≤ s.size → Calls Tryz.prog 209 #[.string x, .string (ofL [c])] (w.alloc (.cells cs 9)) fun e w' => e = .returned (.int .i64 (Lib.indexB x (ofL [c]))) ∧ w' = w.alloc (.cells cs 9) := by
    intro x cs hx
    refine strings_Index.exact _ _ _ _ ?_
    unfold stringslite_Index.f
    rw [if_pos ⟨h1, by omega⟩, hb]
    simp [Lib.indexB, ofL, Lib.index_one]
  have hle : s.data.toList.count c ≤ s.size := by rw [size_data]; exact List.count_le_length
  have hall : (Lib.splitB (ofL [c]) 0 (s.data.toList.count c) s).length = s.data.toList.count c + 1 := Lib.splitB_all (ofL [c]) (Nat.le_refl 1) 0 _ s hcn
  have hg := Any.strings_genSplit_core Tryz.lays221 (by kernel_rfl) s (ofL [c]) 0 (-1) (s.data.toList.count c + 1) w hs (Nat.le_refl 1) (Nat.zero_le _) hI hC (by decide) (by decide) (by rw [if_pos (by decide), hcn]; omega)
  have hfull := Lib.cellsOf_full (Lib.splitB (ofL [c]) 0 (s.data.toList.count c) s)
  rw [hall] at hfull
  rw [Nat.add_sub_cancel, hall, hfull] at hg
  exact hg
theorem Kd.R_strings (xs : List ByteArray) (w : World) (hl : xs.length ≤ 9223372036854775807) :
    Kd.R Kd.string 9 (w.alloc (.cells (xs.map Value.string).toArray 9)) w.heap.size (fun _ => True) (.slice (some ⟨w.heap.size, 0, none⟩) xs.length xs.length) xs := by
  refine ⟨fun _ _ => trivial, xs.map Value.string, ?_, ?_⟩
  · have h2 := World.ownsRow_lit (base := w.heap.size) (e := 9) (size := 1) w (xs.map Value.string).toArray xs.length (Nat.le_refl _) (by simpa [maxLen] using hl) (by simp)
    simp only [List.toList_toArray] at h2
    exact h2
  · refine ⟨by show _ = xs.length * 1; simp, fun j p hj => ?_⟩
    show ((xs.map Value.string).drop (j * 1)).take 1 = [Value.string p]
    rw [Nat.mul_one, ← List.map_drop, ← List.map_take]
    obtain ⟨hlt, hp⟩ := List.getElem?_eq_some_iff.1 hj
    rw [List.drop_eq_getElem_cons hlt, hp]
    simp
def strings_Split.f (a0 a1 : ByteArray) : Option (List ByteArray) := if a1.size = 1 ∧ a0.size < 4294967281 then some ((parts (bt a1 0).toNat.toUInt8 a0.data.toList).map ofL) else none
set_option maxHeartbeats 1000000 in
theorem strings_Split.calls (a0 a1 : ByteArray) (r : List ByteArray) (w : World) (h : strings_Split.f a0 a1 = some r) :
    Calls Tryz.prog 189 #[.string a0, .string a1] w fun e w' => ∃ v0_ : Value, e = .returned v0_ ∧ Kd.R Kd.string 9 w' w.heap.size (fun _ => True) v0_ r ∧ Below w.heap.size w w' := by
  unfold strings_Split.f at h
  split at h
  · rename_i hc
    obtain ⟨h1, h2⟩ := hc
    obtain ⟨c, rfl⟩ := Lib.one_byte a1 h1
    have hb : (bt (⟨#[c]⟩ : ByteArray) 0).toNat.toUInt8 = c := by
      show ((c.toNat : Int)).toNat.toUInt8 = c
      simp
    rw [hb] at h
    obtain rfl := Option.some.inj h
    have hr := Kd.R_strings ((parts c a0.data.toList).map ofL) w (by rw [List.length_map, parts_length]; have := List.count_le_length (a := c) (l := a0.data.toList); rw [size_data] at h2; omega)
    rw [List.length_map, parts_length, ← splitB_parts c _ _ rfl, ofL_self] at hr
    rw [← splitB_parts c _ _ rfl, ofL_self]
    obtain ⟨n, hn⟩ : ∃ n, a0.data.toList.count c = n := ⟨_, rfl⟩
    have hG := strings_genSplit_one a0 c w h2
    rw [hn] at hr hG ⊢
    have HR := Aside0.mk hr
    clear hr h h1 hb hn
    go_enter Tryz.func189, Tryz.ntmps189
    go_wp2_with (first | (go_at_call 201; refine hG.mono ?_; rintro e w' ⟨rfl, hw⟩; rw [hw]))
    go_ret
    exact ⟨_, rfl, HR.out, below_alloc (Below.refl _ _) _⟩
  · cases h
end Go.Proofs.YtjfcmkddeglghaaGreatDoor.G
end
section
namespace Go.Proofs.YtjfcmkddeglghaaGreatDoor.G
open Go.RowKit Go.Proofs.YtjfcmkddeglghaaGreatDoorW.PrintWords Go.Proofs.YtjfcmkddeglghaaGreatDoorW.PrintLast Go.Proofs.YtjfcmkddeglghaaGreatDoorW.PrintMore
attribute [local go_sem] max2_int min2_int max_two min_two max_three min_three max_four min_four
set_option linter.unusedVariables false
set_option linter.unusedSimpArgs false
def octet_Parts.f (a0 : ByteArray) (a1 : Int) : Option (List ByteArray) := (strings_Split.f a0 (strOfNums (([a1] : List Int)))).bind fun t106 => (some t106)
set_option maxHeartbeats 8000000 in
set_option maxRecDepth 100000 in
theorem octet_Parts.calls (a0 : ByteArray) (a1 : Int) (r : List ByteArray) (w : World) (h : octet_Parts.f a0 a1 = some r) :
  Calls Tryz.prog 160 #[.string a0, .int .u8 a1] w fun e w' => ∃ v0_ : Value, e = .returned (v0_) ∧ Kd.R Kd.string 9 w' w.heap.size (fun _ => True) v0_ r ∧ Below w.heap.size w w' := by
 have HB := Aside0.mk (Below.refl w.heap.size w)
 have H : ((strings_Split.f a0 (strOfNums (([a1] : List Int)))).bind fun t106 => (some t106)) = some r := h
 clear h
 obtain ⟨y103, hy103⟩ : ∃ y_ : List Int, y_ = (([a1] : List Int)) := ⟨_, rfl⟩
 replace H : ((strings_Split.f a0 (strOfNums y103)).bind fun t106 => (some t106)) = some r := by first | (rw [hy103]; with_reducible exact H) | (have H2_ := (Option.bind_some _ _).symm.trans H; rw [hy103]; with_reducible exact H2_) | (have H2_ := (Option.bind_some _ _).symm.trans H; with_reducible exact H2_) | with_reducible exact H | (rw [hy103]; exact H) | exact H
 have Ny103 := Aside0.mk hy103
 clear hy103
 obtain ⟨t106, A3, H⟩ := bo H
 obtain rfl := Option.some.inj H
 go_enter Tryz.func160, Tryz.ntmps160
 go_wp2_with (first | ((with_reducible refine gate_dst (N := 7) rfl ?_); refine Kd.R_lit (Kd.int .u8) _ 5 ?hg (N := 7) ?hd (xs := ([a1] : List Int)) (inner := [.int .u8 a1]) (ok := fun _ => True) (okp := fun _ => True) ?hr ?hp (fun _ hk => hk) trivial (Below.refl _ _) (Nat.le_refl _) (by simp) ?_; (case hd => rfl); (case hg => rfl); (case hr => first | (go_simp; done) | (go_simp; rfl)); (case hp => exact (Reps.one (show Kd.M (Kd.int .u8) _ _ _ a1 [.int .u8 a1] from rfl) (Reps.none _ _))); intro v104 w4 ho5 hb hg_ hnew_; clear hg_ hnew_; (first | rw [← Ny103.out] at ho5 | (simp only [Int.reduceToNat] at ho5; rw [← Ny103.out] at ho5)); have n0_ := Aside0.mk (Kd.R_lower ho5 (bz HB)); have n1_ := bs HB hb; revert n0_ n1_; clear HB; intro HO105 HB; clear hb ho5; have hcv6 := own_string (P := Tryz.prog) Tryz.underlying211 Tryz.underlying5 Tryz.underlying9 (Kd.own_of_R HO105.out)) | ((with_reducible refine gate_callee (f := 189) rfl ?_); refine gl 9 Tryz.func189 #[.string a0, .string (strOfNums y103)] ?_; (with_reducible refine (strings_Split.calls a0 (strOfNums y103) t106 _ A3.out).mono ?_); rintro e w7 ⟨v107, rfl, ho0, hb⟩; refine ⟨_, rfl, ?_⟩; have n0_ := rb HO105 hb; have n1_ := Aside0.mk (Kd.R_lower ho0 (bz HB)); have n2_ := bs HB hb; revert n0_ n1_ n2_; clear HO105 HB; intro HO105 HO108 HB; (try clear hb); (try clear ho0)))
 go_ret
 exact ⟨_, by first | rfl | (simp [errW_none, errW_some] <;> rfl) | (simp [*, errW_none, errW_some] <;> rfl), by (with_reducible repeat (first | apply Kd.R_alloc | apply Kd.R_drewN | apply Kd.R_drew)); exact HO108.out, ba HB⟩
end Go.Proofs.YtjfcmkddeglghaaGreatDoor.G
end
section
namespace Go.Proofs.YtjfcmkddeglghaaGreatDoor.G
open Go.RowKit Go.Proofs.YtjfcmkddeglghaaGreatDoorW.PrintWords Go.Proofs.YtjfcmkddeglghaaGreatDoorW.PrintLast Go.Proofs.YtjfcmkddeglghaaGreatDoorW.PrintMore
attribute [local go_sem] max2_int min2_int max_two min_two max_three min_three max_four min_four
set_option linter.unusedVariables false
set_option linter.unusedSimpArgs false
def octet_In.l0 : Nat → Int → List Int → Int → Int → Option (Bool)
 | 0, _, _, _, _ => none
 | k + 1, x5, x10, x11, x12 => if x12 < x11 then (if 0 ≤ x12 then (if x12 < (x10.length : Int) then (if (rd x10 x12) = x5 then (some true) else (octet_In.l0 k x5 x10 x11 (wrap64 (x12 + 1)))) else (none)) else (none)) else (some false)
def octet_In.f (k : Nat) (a0 : Int) (l1 : List Int) : Option (Bool) := (octet_Class.f a0).bind fun t101 => (octet_In.l0 k t101 l1 (l1.length : Int) 0)
theorem octet_In.mono_l : ∀ k, (∀ y0 y1 y2 y3, LeO (octet_In.l0 k y0 y1 y2 y3) (octet_In.l0 (k + 1) y0 y1 y2 y3))
 | 0 => fun _ _ _ _ r h => by simp [octet_In.l0] at h
 | k + 1 => by
  have ih0 := octet_In.mono_l k
  ·intro y0 y1 y2 y3
   unfold octet_In.l0
   repeat' first
   | (with_reducible exact ih0 _ _ _ _)
   | (with_reducible exact LeO.refl _)
   | (with_reducible exact LeO.none _)
   | (with_reducible refine LeO.ite ?_ ?_)
   | (with_reducible refine LeO.bind ?_ (fun _ => ?_))
   | exact ih0 _ _ _ _
   | exact LeO.none _
   | refine LeO.ite ?_ ?_
   | refine LeO.bind ?_ (fun _ => ?_)
theorem octet_In.mono : ∀ a0 a1 k, LeO (octet_In.f k a0 a1) (octet_In.f (k + 1) a0 a1) := by
 intro a0 a1 k
 have ih0 := octet_In.mono_l k
 unfold octet_In.f
 repeat' first
   | (with_reducible exact ih0 _ _ _ _)
   | (with_reducible exact LeO.refl _)
   | (with_reducible exact LeO.none _)
   | (with_reducible refine LeO.ite ?_ ?_)
   | (with_reducible refine LeO.bind ?_ (fun _ => ?_))
   | exact ih0 _ _ _ _
   | exact LeO.none _
   | refine LeO.ite ?_ ?_
   | refine LeO.bind ?_ (fun _ => ?_)
set_option maxHeartbeats 8000000 in
set_option maxRecDepth 100000 in
theorem octet_In.calls (k : Nat) (a0 : Int) (A1 : Option Addr) (c1 : Nat) (l1 : List Int) (r : Bool) (w : World) (hr1 : Kd.C (Kd.int .i64) w A1 l1.length l1) (hc1 : l1.length ≤ c1) (h : octet_In.f k a0 l1 = some r) :
  Calls Tryz.prog 190 #[.int .u8 a0, .slice A1 l1.length c1] w fun e w' => e = .returned (.bool r) ∧ Below w.heap.size w w' := by
 have HR1 := Aside0.mk hr1
 have HC1 := Aside0.mk hc1
 clear hr1 hc1
 have HB := Aside0.mk (Below.refl w.heap.size w)
 have H : ((octet_Class.f a0).bind fun t101 => (octet_In.l0 k t101 l1 (l1.length : Int) 0)) = some r := h
 clear h
 obtain ⟨t101, A3, H⟩ := bo H
 have H' := Aside0.mk H
 clear H
 go_enter Tryz.func190, Tryz.ntmps190
 go_wp2_with (first | ((with_reducible refine gate_callee (f := 202) rfl ?_); refine gl 9 Tryz.func202 #[.int .u8 a0] ?_; (with_reducible refine (octet_Class.calls a0 t101 _ A3.out).mono ?_); rintro e w4 ⟨rfl, hb⟩; refine ⟨_, rfl, ?_⟩; have n0_ := bs HB hb; revert n0_; clear HB; intro HB; (try clear hb)))
 go_loopg [12] k (fun kq v12 w' => ∃ (x12_1 : Int), v12 = .int .i64 x12_1 ∧ Aside0 (octet_In.l0 kq t101 l1 (l1.length : Int) x12_1 = some r) ∧ Aside0 (kq ≤ k) ∧ Aside0 (Below w.heap.size w w'))
 case atStart => exact ⟨(0), (by first | rfl | (simp; done) | (simp [*]; done)), H', ⟨Nat.le_refl _⟩, ⟨ba HB⟩⟩
 case round =>
  clear H'
  try clear c1
  try clear c2
  try clear p2
  obtain ⟨x12_1, rfl, HA, HK1, HB⟩ := hrel
  cases gk with
  | zero => exact absurd HA.out (by simp [octet_In.l0])
  | succ k1 =>
   have H := HA.out
   clear HA
   simp only [octet_In.l0] at H
   by_cases c5 : x12_1 < (l1.length : Int)
   ·rw [if_pos c5] at H
    have c5b0 : decide (x12_1 < (l1.length : Int)) = true := decide_eq_true c5
    clear c5
    by_cases c6 : 0 ≤ x12_1
    ·rw [if_pos c6] at H
     have c6b0 : decide (0 ≤ x12_1) = true := decide_eq_true c6
     clear c6
     by_cases c7 : x12_1 < (l1.length : Int)
     ·rw [if_pos c7] at H
      have c7b0 : decide (x12_1 < (l1.length : Int)) = true := decide_eq_true c7
      clear c7
      by_cases c8 : (rd l1 x12_1) = t101
      ·rw [if_pos c8] at H
       have c8b0 := beq_iff_eq.mpr c8
       have c8b1 := bne_eq_false_iff_eq.mpr c8
       clear c8
       obtain rfl := Option.some.inj H
       have p102 : 0 ≤ (x12_1 : Int) := of_decide_eq_true (by first | (with_reducible assumption) | assumption)
       have q102 : x12_1 < (l1.length : Int) := of_decide_eq_true (by first | (with_reducible assumption) | assumption)
       obtain ⟨ad102, e102, hx102_0⟩ := Kd.at_int HR1.out x12_1 p102 q102
       cases e102
       replace hx102_0 := (HB.out.cell (World.block_lt_of_cell? w _ hx102_0)).trans hx102_0
       replace p102 := eq_true p102
       replace q102 := eq_true q102
       go_wp2
       go_ret
       exact ⟨by first | rfl | (simp [errW_none, errW_some] <;> rfl) | (simp [*, errW_none, errW_some] <;> rfl), ba HB⟩
      ·rw [if_neg c8] at H
       have c8b0 := beq_eq_false_iff_ne.mpr c8
       have c8b1 := bne_iff_ne.mpr c8
       have H' := Aside0.mk H
       clear H
       have p102 : 0 ≤ (x12_1 : Int) := of_decide_eq_true (by first | (with_reducible assumption) | assumption)
       have q102 : x12_1 < (l1.length : Int) := of_decide_eq_true (by first | (with_reducible assumption) | assumption)
       obtain ⟨ad102, e102, hx102_0⟩ := Kd.at_int HR1.out x12_1 p102 q102
       cases e102
       replace hx102_0 := (HB.out.cell (World.block_lt_of_cell? w _ hx102_0)).trans hx102_0
       replace p102 := eq_true p102
       replace q102 := eq_true q102
       go_wp2
       go_roundg k1
       case measure => have := HK1.out; omega
       case rel => exact ⟨(wrap64 (x12_1 + 1)), (by first | rfl | (simp; done) | (simp [*]; done)), H', ⟨by have := HK1.out; omega⟩, ⟨ba HB⟩⟩
     ·rw [if_neg c7] at H
      exact absurd H (by simp)
    ·rw [if_neg c6] at H
     exact absurd H (by simp)
   ·rw [if_neg c5] at H
    have c5b0 : decide (x12_1 < (l1.length : Int)) = false := decide_eq_false c5
    clear c5
    obtain rfl := Option.some.inj H
    go_wp2
    go_ret
    exact ⟨by first | rfl | (simp [errW_none, errW_some] <;> rfl) | (simp [*, errW_none, errW_some] <;> rfl), ba HB⟩
end Go.Proofs.YtjfcmkddeglghaaGreatDoor.G
end
section
namespace Go.Proofs.YtjfcmkddeglghaaGreatDoor.G
open Go.RowKit Go.Lib Go.Proofs.YtjfcmkddeglghaaGreatDoorW.PrintWords Go.Proofs.YtjfcmkddeglghaaGreatDoorW.PrintLast
set_option linter.unusedVariables false
set_option linter.unusedSimpArgs false
def octEl (c : UInt8) : Bool := octClass c == 1 || octClass c == 2 || octClass c == 3
def lastOf (s : List UInt8) : Int := match s.getLast? with | none => 46 | some c => (c.toNat : Int)
def elemB (s : List UInt8) : Bool := s != [] && s.head? != some 46 && s.getLast? != some 46 && s.all octEl
def path_element.f (a0 : ByteArray) : Option Bool := if a0.size ≤ 9223372036854775807 then some (elemB a0.data.toList) else none
theorem inEl : ∀ n : Fin 10, ((some ((n.val : Nat) : Int)).bind fun t => octet_In.l0 5 t [1, 2, 3] (([1, 2, 3] : List Int).length : Int) 0) = some (n.val == 1 || n.val == 2 || n.val == 3) := by decide +kernel
theorem octet_In_elem (c : UInt8) : octet_In.f 5 (c.toNat : Int) [1, 2, 3] = some (octEl c) := by
  have h1 := UInt8.toNat_lt c
  unfold octet_In.f octet_Class.f
  rw [if_pos ⟨by omega, by omega⟩]
  have h2 : ((c.toNat : Int)).toNat.toUInt8 = c := by simp
  rw [h2]
  exact inEl ⟨octClass c, octClass_lt c⟩
theorem octet_In_call (c : UInt8) (g : Nat) (w : World) (hg : w.heap[g]? = some (.cells #[.int .i64 1, .int .i64 2, .int .i64 3] 3 (0, 0))) :
    Calls Tryz.prog 190 #[.int .u8 (c.toNat : Int), .slice (some ⟨g, 0, none⟩) 3 3] w fun e w' => e = .returned (.bool (octEl c)) ∧ Below w.heap.size w w' := by
  refine octet_In.calls 5 (c.toNat : Int) (some ⟨g, 0, none⟩) 3 [1, 2, 3] _ w ⟨rfl, by decide, fun _ => ⟨⟨g, 0, none⟩, rfl, fun j p hj => ?_⟩⟩ (Nat.le_refl _) (octet_In_elem c)
  refine ⟨[.int .i64 p], rfl, rfl, fun i u hu => ?_⟩
  have hi : i = 0 := by
    have := (List.getElem?_eq_some_iff.1 hu).1
    simp at this; exact this
  subst hi
  simp at hu
  subst hu
  have hj3 : j < 3 := (List.getElem?_eq_some_iff.1 hj).1
  rw [add_plain]
  rw [cell_of_row _ _ _ _ _ _ hg]
  have h4 : j = 0 ∨ j = 1 ∨ j = 2 := by omega
  rcases h4 with rfl | rfl | rfl <;> simp_all [Kd.int, Kd.scalar]
theorem octEl_high (c : UInt8) (h : 128 ≤ c.toNat) : octEl c = false := by
  have h1 : ((List.range 256).all fun n => decide (n < 128) || !octEl n.toUInt8) = true := by decide +kernel
  have h2 := List.all_eq_true.1 h1 c.toNat (List.mem_range.2 (UInt8.toNat_lt c))
  have h3 : c.toNat.toUInt8 = c := by simp
  rw [h3] at h2
  have h4 : decide (c.toNat < 128) = false := decide_eq_false (by omega)
  rw [h4] at h2
  simpa using h2
theorem elem_end (s : List UInt8) (h1 : s.all octEl = true) (h2 : s ≠ [] → s.head? ≠ some 46) : (lastOf s != 46) = elemB s := by
  unfold lastOf elemB
  rcases List.eq_nil_or_concat s with rfl | ⟨l, c, e⟩
  · rfl
  · have hne : s ≠ [] := by rw [e]; simp
    have hl : s.getLast? = some c := by rw [e]; simp
    have hh := h2 hne
    rw [hl, h1]
    have e1 : (s != []) = true := by simpa using hne
    have e2 : (s.head? != some 46) = true := by simpa using hh
    rw [e1, e2]
    simp only [Bool.true_and, Bool.and_true]
    by_cases hc : c = 46
    · subst hc; rfl
    · have h3 : ¬ c.toNat = 46 := fun e => hc (UInt8.toNat_inj.1 (by rw [e]; rfl))
      have e3 : ((c.toNat : Int) != 46) = true := by simp; omega
      have e4 : (some c != some (46 : UInt8)) = true := by simpa using hc
      rw [e4]; exact e3
theorem elem_not {s : List UInt8} {i : Nat} {x : UInt8} (h : s[i]? = some x) (hx : octEl x = false) : elemB s = false := by
  have : s.all octEl = false := by
    rw [List.all_eq_false]
    exact ⟨x, List.mem_of_getElem? h, by rw [hx]; simp⟩
  unfold elemB
  rw [this, Bool.and_false]
set_option maxHeartbeats 8000000 in
set_option maxRecDepth 1000000 in
theorem path_element.calls (a0 : ByteArray) (r : Bool) (w : World) (h : path_element.f a0 = some r) :
    Calls Tryz.prog 161 #[.string a0] w fun e w' => e = .returned (.bool r) ∧ Below w.heap.size w w' := by
  unfold path_element.f at h
  split at h
  case isFalse => cases h
  rename_i hsz
  obtain rfl := Option.some.inj h
  clear h
  go_enter Tryz.func161, Tryz.ntmps161
  go_wp2
  go_loopg [3] a0.size (fun g s3 wx => ∃ i : Nat, i + g = a0.size ∧ s3 = .int .i32 (lastOf (a0.data.toList.take i)) ∧ Aside0 ((a0.data.toList.take i).all octEl = true ∧ (0 < i → a0.data.toList.head? ≠ some 46)) ∧ wx.heap[w.heap.size]? = some (.stringIter a0 i) ∧ Aside0 (Below w.heap.size w wx))
  case atStart => exact ⟨0, by omega, rfl, ⟨rfl, fun h => absurd h (by omega)⟩, World.iter_heap _ _ _, ⟨(Below.refl _ _).alloc (Nat.le_refl _) _⟩⟩
  case round =>
    obtain ⟨i, hig, rfl, hal, hB, hb⟩ := hrel
    cases gk with
    | zero =>
      obtain rfl : i = a0.size := by omega
      have hnx := fun ty => run_next_end_at (P := Tryz.prog) wr w.heap.size a0 a0.size ty hB (by omega)
      have HB := Aside0.mk hB
      clear hB
      go_wp2
      go_ret
      have hal2 := hal.out
      rw [List.take_of_length_le (by rw [← Lib.size_eq]; exact Nat.le_refl _)] at hal2
      refine ⟨(show Ending.returned (.bool (lastOf (a0.data.toList.take a0.size) != 46)) = Ending.returned (.bool (elemB a0.data.toList)) from ?_), hb.out⟩
      rw [List.take_of_length_le (by rw [← Lib.size_eq]; exact Nat.le_refl _), elem_end _ hal2.1 (fun hne => hal2.2 (by
        have := List.length_pos_iff.2 hne
        rw [← Lib.size_eq] at this; exact this))]
    | succ g =>
      have hi : i < a0.size := by omega
      obtain ⟨x, hx⟩ : ∃ x : UInt8, a0[i]'hi = x := ⟨_, rfl⟩
      have Hx : Aside0 (a0.data.toList[i]? = some x) := ⟨by rw [← hx]; exact Lib.data_getElem? _ i hi⟩
      by_cases hx128 : x.toNat < 128
      · have hnx := fun ty => run_next_ascii_at (P := Tryz.prog) wr w.heap.size a0 i ty hB hi (by rw [hx]; exact hx128)
        rw [hx] at hnx
        have hxi : (x.toNat : Int) < 128 := by omega
        have hxlt : ¬ ((127 : Int) < (x.toNat : Int)) := by omega
        have HB := Aside0.mk hB
        clear hB
        have hb1 : Aside0 (∀ o : Obj, Below w.heap.size w ((wr.iterAt w.heap.size a0 (i + 1)).alloc o)) := ⟨fun o => (below_iterAt hb.out (Nat.le_refl _) _ _).alloc (by rw [iterAt_size]; exact hb.out.size) _⟩
        have hit : Aside0 (∀ o : Obj, ((wr.iterAt w.heap.size a0 (i + 1)).alloc o).heap[w.heap.size]? = some (.stringIter a0 (i + 1))) := ⟨fun o => by
          have h1 := iterAt_heap wr w.heap.size a0 i (i + 1) HB.out
          exact (Below.heap_alloc _ _ _ (Array.getElem?_eq_some_iff.1 h1).1).trans h1⟩
        cases hel : octEl x with
        | false =>
          have Hel := Aside0.mk hel
          clear hel
          go_wp2_with (go_at_call 190; refine (octet_In_call x _ _ (by exact heap_alloc_new _ _)).mono ?_; rintro e w' ⟨rfl, hb2⟩; rw [Hel.out])
          go_ret
          exact ⟨by rw [elem_not Hx.out Hel.out]; rfl, below_then (hb1.out _) (hb1.out _).size hb2⟩
        | true =>
          have Hel := Aside0.mk hel
          clear hel
          by_cases h0 : i = 0
          · have h0b : ((i : Int) == 0) = true := by simp [h0]
            have H0 := Aside0.mk h0
            clear h0
            by_cases h46 : x = 46
            · have h46b : ((x.toNat : Int) == 46) = true := by subst h46; rfl
              have H46 := Aside0.mk h46
              clear h46
              go_wp2_with (go_at_call 190; refine (octet_In_call x _ _ (by exact heap_alloc_new _ _)).mono ?_; rintro e w' ⟨rfl, hb2⟩; rw [Hel.out])
              go_ret
              refine ⟨?_, below_then (hb1.out _) (hb1.out _).size hb2⟩
              have hh : a0.data.toList.head? = some 46 := by
                have := Hx.out
                rw [H0.out, H46.out] at this
                rw [List.head?_eq_getElem?]; exact this
              have : elemB a0.data.toList = false := by unfold elemB; rw [hh]; simp
              rw [this]; rfl
            · have h46b : ((x.toNat : Int) == 46) = false := by
                have h3 : ¬ x.toNat = 46 := fun e => h46 (UInt8.toNat_inj.1 (by rw [e]; rfl))
                simp; omega
              have H46 := Aside0.mk h46
              clear h46
              go_wp2_with (go_at_call 190; refine (octet_In_call x _ _ (by exact heap_alloc_new _ _)).mono ?_; rintro e w' ⟨rfl, hb2⟩; rw [Hel.out])
              go_roundg g
              case measure => omega
              case rel =>
                refine ⟨i + 1, by omega, ?_, ⟨?_, fun _ => ?_⟩, (hb2.block _ (Array.getElem?_eq_some_iff.1 (hit.out _)).1).trans (hit.out _), ⟨below_then (hb1.out _) (hb1.out _).size hb2⟩⟩
                · rw [List.take_add_one, Hx.out]; simp [lastOf, Option.toList]
                · rw [List.take_add_one, Hx.out, List.all_append, hal.out.1]; simp [Option.toList, Hel.out]
                · have := Hx.out
                  rw [H0.out] at this
                  rw [List.head?_eq_getElem?, this]
                  exact fun e => H46.out (Option.some.inj e)
          · have h0b : ((i : Int) == 0) = false := by simp; omega
            have H0 := Aside0.mk h0
            clear h0
            go_wp2_with (go_at_call 190; refine (octet_In_call x _ _ (by exact heap_alloc_new _ _)).mono ?_; rintro e w' ⟨rfl, hb2⟩; rw [Hel.out])
            go_roundg g
            case measure => omega
            case rel =>
              refine ⟨i + 1, by omega, ?_, ⟨?_, fun _ => hal.out.2 (by have := H0.out; omega)⟩, (hb2.block _ (Array.getElem?_eq_some_iff.1 (hit.out _)).1).trans (hit.out _), ⟨below_then (hb1.out _) (hb1.out _).size hb2⟩⟩
              · rw [List.take_add_one, Hx.out]; simp [lastOf, Option.toList]
              · rw [List.take_add_one, Hx.out, List.all_append, hal.out.1]; simp [Option.toList, Hel.out]
      · have hnx := fun ty => run_next_any_at (P := Tryz.prog) wr w.heap.size a0 i ty hB hi
        have hd := (decode_high a0 i hi (by rw [hx]; omega)).1
        generalize Utf8.decode a0 i = d at hnx hd
        have hdi : (127 : Int) < (d.1 : Int) := by omega
        have HB := Aside0.mk hB
        clear hB
        go_wp2
        go_ret
        exact ⟨by rw [elem_not Hx.out (octEl_high x (by omega))]; rfl, below_iterAt hb.out (Nat.le_refl _) _ _⟩
end Go.Proofs.YtjfcmkddeglghaaGreatDoor.G
end
section
namespace Go.Proofs.YtjfcmkddeglghaaGreatDoor.G
open Go.RowKit Go.Proofs.YtjfcmkddeglghaaGreatDoorW.PrintWords Go.Proofs.YtjfcmkddeglghaaGreatDoorW.PrintLast Go.Proofs.YtjfcmkddeglghaaGreatDoorW.PrintMore
attribute [local go_sem] max2_int min2_int max_two min_two max_three min_three max_four min_four
set_option linter.unusedVariables false
set_option linter.unusedSimpArgs false
def path_Elements.l0 : Nat → List ByteArray → List ByteArray → Int → Int → Option (List ByteArray × Int)
 | 0, _, _, _, _ => none
 | k + 1, x4, x9, x10, x11 => if x11 < x10 then (if 0 ≤ x11 then (if x11 < (x9.length : Int) then ((path_element.f (rdOf ByteArray.empty x9 x11)).bind fun t113 => (if t113 = true then (path_Elements.l0 k x4 x9 x10 (wrap64 (x11 + 1))) else (some (([] : List ByteArray), 1)))) else (none)) else (none)) else (some (x4, 0))
def path_Elements.f (k : Nat) (a0 : ByteArray) : Option (List ByteArray × Int) := (octet_Parts.f a0 47).bind fun t109 => (path_Elements.l0 k t109 t109 (t109.length : Int) 0)
theorem path_Elements.mono_l : ∀ k, (∀ y0 y1 y2 y3, LeO (path_Elements.l0 k y0 y1 y2 y3) (path_Elements.l0 (k + 1) y0 y1 y2 y3))
 | 0 => fun _ _ _ _ r h => by simp [path_Elements.l0] at h
 | k + 1 => by
  have ih0 := path_Elements.mono_l k
  ·intro y0 y1 y2 y3
   unfold path_Elements.l0
   repeat' first
   | (with_reducible exact ih0 _ _ _ _)
   | (with_reducible exact LeO.refl _)
   | (with_reducible exact LeO.none _)
   | (with_reducible refine LeO.ite ?_ ?_)
   | (with_reducible refine LeO.bind ?_ (fun _ => ?_))
   | exact ih0 _ _ _ _
   | exact LeO.none _
   | refine LeO.ite ?_ ?_
   | refine LeO.bind ?_ (fun _ => ?_)
theorem path_Elements.mono : ∀ a0 k, LeO (path_Elements.f k a0) (path_Elements.f (k + 1) a0) := by
 intro a0 k
 have ih0 := path_Elements.mono_l k
 unfold path_Elements.f
 repeat' first
   | (with_reducible exact ih0 _ _ _ _)
   | (with_reducible exact LeO.refl _)
   | (with_reducible exact LeO.none _)
   | (with_reducible refine LeO.ite ?_ ?_)
   | (with_reducible refine LeO.bind ?_ (fun _ => ?_))
   | exact ih0 _ _ _ _
   | exact LeO.none _
   | refine LeO.ite ?_ ?_
   | refine LeO.bind ?_ (fun _ => ?_)
set_option maxHeartbeats 8000000 in
set_option maxRecDepth 100000 in
theorem path_Elements.calls (k : Nat) (a0 : ByteArray) (r1 : List ByteArray) (r2 : Int) (w : World) (h : path_Elements.f k a0 = some (r1, r2)) :
  Calls Tryz.prog 126 #[.string a0] w fun e w' => ∃ v0_ : Value, e = .returned (.tuple #[v0_, .int .i64 r2]) ∧ Kd.R Kd.string 9 w' w.heap.size (fun _ => True) v0_ r1 ∧ Below w.heap.size w w' := by
 have HB := Aside0.mk (Below.refl w.heap.size w)
 have H : ((octet_Parts.f a0 47).bind fun t109 => (path_Elements.l0 k t109 t109 (t109.length : Int) 0)) = some (r1, r2) := h
 clear h
 obtain ⟨t109, A2, H⟩ := bo H
 have H' := Aside0.mk H
 clear H
 go_enter Tryz.func126, Tryz.ntmps126
 go_wp2_with (first | ((with_reducible refine gate_callee (f := 160) rfl ?_); refine gl 8 Tryz.func160 #[.string a0, .int .u8 47] ?_; (with_reducible refine (octet_Parts.calls a0 47 t109 _ A2.out).mono ?_); rintro e w3 ⟨v110, rfl, ho0, hb⟩; refine ⟨_, rfl, ?_⟩; have n0_ := Aside0.mk (Kd.R_lower ho0 (bz HB)); have n1_ := bs HB hb; revert n0_ n1_; clear HB; intro HO111 HB; (try clear hb); (try clear ho0); obtain ⟨Ao4, co4, eo4⟩ := Kd.R_slice HO111.out; subst eo4))
 go_loopg [11] k (fun kq v11 w' => ∃ (x11_1 : Int), v11 = .int .i64 x11_1 ∧ Aside0 (path_Elements.l0 kq t109 t109 (t109.length : Int) x11_1 = some (r1, r2)) ∧ Aside0 (kq ≤ k) ∧ Aside0 (Kd.R Kd.string 9 w' w.heap.size (fun _ => True) (.slice Ao4 t109.length co4) t109) ∧ Aside0 (Kd.R Kd.string 9 w' w.heap.size (fun _ => True) (.slice Ao4 t109.length co4) t109) ∧ Aside0 (Below w.heap.size w w'))
 case atStart => exact ⟨(0), (by first | rfl | (simp; done) | (simp [*]; done)), H', ⟨Nat.le_refl _⟩, ⟨ra HO111⟩, ⟨ra HO111⟩, ⟨ba HB⟩⟩
 case round =>
  clear H'
  try clear c1
  try clear p2
  obtain ⟨x11_1, rfl, HA, HK1, HO_4, HO_9, HB⟩ := hrel
  cases gk with
  | zero => exact absurd HA.out (by simp [path_Elements.l0])
  | succ k1 =>
   have H := HA.out
   clear HA
   simp only [path_Elements.l0] at H
   by_cases c5 : x11_1 < (t109.length : Int)
   ·rw [if_pos c5] at H
    have c5b0 : decide (x11_1 < (t109.length : Int)) = true := decide_eq_true c5
    clear c5
    by_cases c6 : 0 ≤ x11_1
    ·rw [if_pos c6] at H
     have c6b0 : decide (0 ≤ x11_1) = true := decide_eq_true c6
     clear c6
     by_cases c7 : x11_1 < (t109.length : Int)
     ·rw [if_pos c7] at H
      have c7b0 : decide (x11_1 < (t109.length : Int)) = true := decide_eq_true c7
      clear c7
      obtain ⟨t113, A8, H⟩ := bo H
      by_cases c9 : t113 = true
      ·subst c9
       replace H := it H
       have H' := Aside0.mk H
       clear H
       have p112 : 0 ≤ (x11_1 : Int) := of_decide_eq_true (by first | (with_reducible assumption) | assumption)
       have q112 : x11_1 < (t109.length : Int) := of_decide_eq_true (by first | (with_reducible assumption) | assumption)
       obtain ⟨ad112, e112, hx112_0⟩ := Kd.at_string (Kd.R_reads' HO_9.out).2.2 x11_1 p112 q112
       cases e112
       replace p112 := eq_true p112
       replace q112 := eq_true q112
       go_wp2_with (first | ((with_reducible refine gate_callee (f := 161) rfl ?_); refine gl 16 Tryz.func161 #[.string (rdOf ByteArray.empty t109 x11_1)] ?_; (with_reducible refine (path_element.calls (rdOf ByteArray.empty t109 x11_1) true _ A8.out).mono ?_); rintro e w10 ⟨rfl, hb⟩; refine ⟨_, rfl, ?_⟩; have n0_ := rb HO_4 hb; have n1_ := rb HO_9 hb; have n2_ := bs HB hb; revert n0_ n1_ n2_; clear HO_4 HO_9 HB; intro HO_4 HO_9 HB; (try clear hb)))
       go_roundg k1
       case measure => have := HK1.out; omega
       case rel => exact ⟨(wrap64 (x11_1 + 1)), (by first | rfl | (simp; done) | (simp [*]; done)), H', ⟨by have := HK1.out; omega⟩, ⟨ra HO_4⟩, ⟨ra HO_9⟩, ⟨ba HB⟩⟩
      ·replace c9 := Bool.eq_false_iff.mpr c9
       subst c9
       replace H := jf H
       simp only [Option.some.injEq, Prod.mk.injEq] at H
       obtain ⟨rfl, rfl⟩ := H
       have p112 : 0 ≤ (x11_1 : Int) := of_decide_eq_true (by first | (with_reducible assumption) | assumption)
       have q112 : x11_1 < (t109.length : Int) := of_decide_eq_true (by first | (with_reducible assumption) | assumption)
       obtain ⟨ad112, e112, hx112_0⟩ := Kd.at_string (Kd.R_reads' HO_9.out).2.2 x11_1 p112 q112
       cases e112
       replace p112 := eq_true p112
       replace q112 := eq_true q112
       go_wp2_with (first | ((with_reducible refine gate_callee (f := 161) rfl ?_); refine gl 16 Tryz.func161 #[.string (rdOf ByteArray.empty t109 x11_1)] ?_; (with_reducible refine (path_element.calls (rdOf ByteArray.empty t109 x11_1) false _ A8.out).mono ?_); rintro e w11 ⟨rfl, hb⟩; refine ⟨_, rfl, ?_⟩; have n0_ := rb HO_4 hb; have n1_ := rb HO_9 hb; have n2_ := bs HB hb; revert n0_ n1_ n2_; clear HO_4 HO_9 HB; intro HO_4 HO_9 HB; (try clear hb)))
       go_ret2
       exact ⟨_, by first | rfl | (simp [errW_none, errW_some] <;> rfl) | (simp [*, errW_none, errW_some] <;> rfl), by first | exact Kd.R_nil _ _ _ _ _ | exact Kd.N_nil _ _ _ _ _ | exact Kd.V_nil _ _ _ _ _ | exact Kd.Q_nil _ _ _ _ _ | exact Kd.S_nil _ _ _ _ _, ba HB⟩
     ·rw [if_neg c7] at H
      exact absurd H (by simp)
    ·rw [if_neg c6] at H
     exact absurd H (by simp)
   ·rw [if_neg c5] at H
    have c5b0 : decide (x11_1 < (t109.length : Int)) = false := decide_eq_false c5
    clear c5
    simp only [Option.some.injEq, Prod.mk.injEq] at H
    obtain ⟨rfl, rfl⟩ := H
    go_wp2
    go_ret2
    exact ⟨_, by first | rfl | (simp [errW_none, errW_some] <;> rfl) | (simp [*, errW_none, errW_some] <;> rfl), by (with_reducible repeat (first | apply Kd.R_alloc | apply Kd.R_drewN | apply Kd.R_drew)); exact HO_4.out, ba HB⟩
end Go.Proofs.YtjfcmkddeglghaaGreatDoor.G
end
section
namespace Go.Proofs.YtjfcmkddeglghaaGreatDoor.G
open Go.RowKit Go.Proofs.YtjfcmkddeglghaaGreatDoorW.PrintWords Go.Proofs.YtjfcmkddeglghaaGreatDoorW.PrintLast Go.Proofs.YtjfcmkddeglghaaGreatDoorW.PrintMore
attribute [local go_sem] max2_int min2_int max_two min_two max_three min_three max_four min_four
set_option linter.unusedVariables false
set_option linter.unusedSimpArgs false
def path_May.f (k : Nat) (a0 : ByteArray) : Option (Bool) := (path_Elements.f k a0).bind fun bt114 => (some (bt114.2 == 0))
theorem path_May.mono : ∀ a0 k, LeO (path_May.f k a0) (path_May.f (k + 1) a0) := by
 intro a0 k
 unfold path_May.f
 repeat' first
   | (with_reducible exact path_Elements.mono _ _)
   | (with_reducible exact LeO.refl _)
   | (with_reducible exact LeO.none _)
   | (with_reducible refine LeO.ite ?_ ?_)
   | (with_reducible refine LeO.bind ?_ (fun _ => ?_))
   | exact path_Elements.mono _ _
   | exact LeO.none _
   | refine LeO.ite ?_ ?_
   | refine LeO.bind ?_ (fun _ => ?_)
set_option maxHeartbeats 8000000 in
set_option maxRecDepth 100000 in
theorem path_May.calls (k : Nat) (a0 : ByteArray) (r : Bool) (w : World) (h : path_May.f k a0 = some r) :
  Calls Tryz.prog 92 #[.string a0] w fun e w' => e = .returned (.bool r) ∧ Below w.heap.size w w' := by
 have HB := Aside0.mk (Below.refl w.heap.size w)
 have H : ((path_Elements.f k a0).bind fun bt114 => (some (bt114.2 == 0))) = some r := h
 clear h
 obtain ⟨⟨t114, t115⟩, A2, H⟩ := bo H
 replace H : (some (t115 == 0)) = some r := H
 obtain rfl := Option.some.inj H
 go_enter Tryz.func92, Tryz.ntmps92
 go_wp2_with (first | ((with_reducible refine gate_callee (f := 126) rfl ?_); refine gl 7 Tryz.func126 #[.string a0] ?_; (with_reducible refine (path_Elements.calls k a0 t114 t115 _ A2.out).mono ?_); rintro e w3 ⟨v116, rfl, ho0, hb⟩; refine ⟨_, rfl, ?_⟩; have n0_ := Aside0.mk (Kd.R_lower ho0 (bz HB)); have n1_ := bs HB hb; revert n0_ n1_; clear HB; intro HO117 HB; (try clear hb); (try clear ho0)))
 go_ret
 exact ⟨by first | rfl | (simp [errW_none, errW_some] <;> rfl) | (simp [*, errW_none, errW_some] <;> rfl), ba HB⟩
end Go.Proofs.YtjfcmkddeglghaaGreatDoor.G
end
section
namespace Go.Proofs.YtjfcmkddeglghaaGreatDoor.G
open Go.RowKit Go.Proofs.YtjfcmkddeglghaaGreatDoorW.PrintWords Go.Proofs.YtjfcmkddeglghaaGreatDoorW.PrintLast Go.Proofs.YtjfcmkddeglghaaGreatDoorW.PrintMore
attribute [local go_sem] max2_int min2_int max_two min_two max_three min_three max_four min_four
set_option linter.unusedVariables false
set_option linter.unusedSimpArgs false
def stringslite_HasPrefix.f (a0 : ByteArray) (a1 : ByteArray) : Option (Bool) := if (a0.size : Int) ≥ (a1.size : Int) then (if 0 ≤ (a1.size : Int) then (if (a1.size : Int) ≤ (a0.size : Int) then (some ((a0.extract 0 ((a1.size : Int) : Int).toNat).toList == a1.toList)) else (none)) else (none)) else (some false)
set_option maxHeartbeats 8000000 in
set_option maxRecDepth 100000 in
theorem stringslite_HasPrefix.calls (a0 : ByteArray) (a1 : ByteArray) (r : Bool) (w : World) (h : stringslite_HasPrefix.f a0 a1 = some r) :
  Calls Tryz.prog 192 #[.string a0, .string a1] w fun e w' => e = .returned (.bool r) ∧ Drawn0 w w' := by
 have H : (if (a0.size : Int) ≥ (a1.size : Int) then (if 0 ≤ (a1.size : Int) then (if (a1.size : Int) ≤ (a0.size : Int) then (some ((a0.extract 0 ((a1.size : Int) : Int).toNat).toList == a1.toList)) else (none)) else (none)) else (some false)) = some r := h
 clear h
 by_cases c3 : (a0.size : Int) ≥ (a1.size : Int)
 ·rw [if_pos c3] at H
  have c3b0 : decide ((a1.size : Int) ≤ (a0.size : Int)) = true := decide_eq_true c3
  have c3b1 : decide (a1.size ≤ a0.size) = true := decide_eq_true (Int.ofNat_le.mp c3)
  clear c3
  by_cases c4 : 0 ≤ (a1.size : Int)
  ·rw [if_pos c4] at H
   have c4b0 := eq_true c4
   have c4b1 : decide (0 ≤ (a1.size : Int)) = true := decide_eq_true c4
   clear c4
   by_cases c5 : (a1.size : Int) ≤ (a0.size : Int)
   ·rw [if_pos c5] at H
    have c5b0 := eq_true c5
    have c5b1 : decide ((a1.size : Int) ≤ (a0.size : Int)) = true := decide_eq_true c5
    clear c5
    obtain rfl := Option.some.inj H
    go_enter Tryz.func192, Tryz.ntmps192
    go_wp2
    go_ret
    exact ⟨by first | rfl | (simp; done) | (simp [*]; done), by repeat (first | exact Drawn0.refl _ | apply Drawn0.step)⟩
   ·rw [if_neg c5] at H
    exact absurd H (by simp)
  ·rw [if_neg c4] at H
   exact absurd H (by simp)
 ·rw [if_neg c3] at H
  have c3b0 : decide ((a1.size : Int) ≤ (a0.size : Int)) = false := decide_eq_false c3
  have c3b1 : decide (a1.size ≤ a0.size) = false := decide_eq_false (fun h => c3 (Int.ofNat_le.mpr h))
  clear c3
  obtain rfl := Option.some.inj H
  go_enter Tryz.func192, Tryz.ntmps192
  go_wp2
  go_ret
  exact ⟨by first | rfl | (simp; done) | (simp [*]; done), by repeat (first | exact Drawn0.refl _ | apply Drawn0.step)⟩
end Go.Proofs.YtjfcmkddeglghaaGreatDoor.G
end
section
namespace Go.Proofs.YtjfcmkddeglghaaGreatDoor.G
open Go.RowKit Go.Proofs.YtjfcmkddeglghaaGreatDoorW.PrintWords Go.Proofs.YtjfcmkddeglghaaGreatDoorW.PrintLast Go.Proofs.YtjfcmkddeglghaaGreatDoorW.PrintMore
attribute [local go_sem] max2_int min2_int max_two min_two max_three min_three max_four min_four
set_option linter.unusedVariables false
set_option linter.unusedSimpArgs false
def strings_HasPrefix.f (a0 : ByteArray) (a1 : ByteArray) : Option (Bool) := (stringslite_HasPrefix.f a0 a1).bind fun t118 => (some t118)
set_option maxHeartbeats 8000000 in
set_option maxRecDepth 100000 in
theorem strings_HasPrefix.calls (a0 : ByteArray) (a1 : ByteArray) (r : Bool) (w : World) (h : strings_HasPrefix.f a0 a1 = some r) :
  Calls Tryz.prog 171 #[.string a0, .string a1] w fun e w' => e = .returned (.bool r) ∧ Drawn0 w w' := by
 have H : ((stringslite_HasPrefix.f a0 a1).bind fun t118 => (some t118)) = some r := h
 clear h
 obtain ⟨t118, A3, H⟩ := bo H
 obtain rfl := Option.some.inj H
 go_enter Tryz.func171, Tryz.ntmps171
 go_wp2_with (first | ((with_reducible refine gate_callee (f := 192) rfl ?_); refine gl 7 Tryz.func192 #[.string a0, .string a1] ?_; (with_reducible refine (stringslite_HasPrefix.calls a0 a1 t118 _ A3.out).mono ?_); rintro e w' ⟨rfl, ⟨nd, rfl⟩⟩; refine ⟨_, rfl, ?_⟩))
 go_ret
 exact ⟨by first | rfl | (simp; done) | (simp [*]; done), by repeat (first | exact Drawn0.refl _ | apply Drawn0.step)⟩
end Go.Proofs.YtjfcmkddeglghaaGreatDoor.G
end
section
namespace Go.Proofs.YtjfcmkddeglghaaGreatDoor.G
open Go.RowKit Go.Proofs.YtjfcmkddeglghaaGreatDoorW.PrintWords Go.Proofs.YtjfcmkddeglghaaGreatDoorW.PrintLast Go.Proofs.YtjfcmkddeglghaaGreatDoorW.PrintMore
attribute [local go_sem] max2_int min2_int max_two min_two max_three min_three max_four min_four
set_option linter.unusedVariables false
set_option linter.unusedSimpArgs false
def stringslite_Cut.f (a0 : ByteArray) (a1 : ByteArray) : Option (ByteArray × ByteArray × Bool) := (stringslite_Index.f a0 a1).bind fun t119 => (if t119 ≥ 0 then (if 0 ≤ t119 then (if t119 ≤ (a0.size : Int) then (if 0 ≤ (wrap64 (t119 + (a1.size : Int))) then (if (wrap64 (t119 + (a1.size : Int))) ≤ (a0.size : Int) then (some (a0.extract 0 (t119 : Int).toNat, a0.extract ((wrap64 (t119 + (a1.size : Int))) : Int).toNat a0.size, true)) else (none)) else (none)) else (none)) else (none)) else (some (a0, (⟨#[]⟩ : ByteArray), false)))
set_option maxHeartbeats 8000000 in
set_option maxRecDepth 100000 in
theorem stringslite_Cut.calls (a0 : ByteArray) (a1 : ByteArray) (r1 : ByteArray) (r2 : ByteArray) (r3 : Bool) (w : World) (h : stringslite_Cut.f a0 a1 = some (r1, r2, r3)) :
  Calls Tryz.prog 193 #[.string a0, .string a1] w fun e w' => e = .returned (.tuple #[.string r1, .string r2, .bool r3]) ∧ Drawn0 w w' := by
 have H : ((stringslite_Index.f a0 a1).bind fun t119 => (if t119 ≥ 0 then (if 0 ≤ t119 then (if t119 ≤ (a0.size : Int) then (if 0 ≤ (wrap64 (t119 + (a1.size : Int))) then (if (wrap64 (t119 + (a1.size : Int))) ≤ (a0.size : Int) then (some (a0.extract 0 (t119 : Int).toNat, a0.extract ((wrap64 (t119 + (a1.size : Int))) : Int).toNat a0.size, true)) else (none)) else (none)) else (none)) else (none)) else (some (a0, (⟨#[]⟩ : ByteArray), false)))) = some (r1, r2, r3) := h
 clear h
 obtain ⟨t119, A3, H⟩ := bo H
 by_cases c4 : t119 ≥ 0
 ·rw [if_pos c4] at H
  have c4b0 : decide (0 ≤ t119) = true := decide_eq_true c4
  clear c4
  by_cases c5 : 0 ≤ t119
  ·rw [if_pos c5] at H
   have c5b0 := eq_true c5
   have c5b1 : decide (0 ≤ t119) = true := decide_eq_true c5
   clear c5
   by_cases c6 : t119 ≤ (a0.size : Int)
   ·rw [if_pos c6] at H
    have c6b0 := eq_true c6
    have c6b1 : decide (t119 ≤ (a0.size : Int)) = true := decide_eq_true c6
    clear c6
    obtain ⟨ji7, hji7⟩ : ∃ j_ : Int, (wrap64 (t119 + (a1.size : Int))) = j_ := ⟨_, rfl⟩
    replace H : (if 0 ≤ (ji7) then (if (ji7) ≤ (a0.size : Int) then (some (a0.extract 0 (t119 : Int).toNat, a0.extract ((ji7) : Int).toNat a0.size, true)) else (none)) else (none)) = some (r1, r2, r3) := by first | (rw [hji7] at H; exact H) | (simp only [hji7] at H ⊢; exact H)
    (try rw [hji7] at A3)
    have hji7w : (IntKind.i64.wrap (t119 + (a1.size : Int))) = ji7 := (i64_w _).trans hji7
    by_cases c8 : 0 ≤ (ji7)
    ·rw [if_pos c8] at H
     have c8b0 := eq_true c8
     have c8b1 : decide (0 ≤ (ji7)) = true := decide_eq_true c8
     clear c8
     by_cases c9 : (ji7) ≤ (a0.size : Int)
     ·rw [if_pos c9] at H
      have c9b0 := eq_true c9
      have c9b1 : decide ((ji7) ≤ (a0.size : Int)) = true := decide_eq_true c9
      clear c9
      simp only [Option.some.injEq, Prod.mk.injEq] at H
      obtain ⟨rfl, rfl, rfl⟩ := H
      go_enter Tryz.func193, Tryz.ntmps193
      go_wp2_with (first | (go_at_call 203; (with_reducible refine (stringslite_Index.calls a0 a1 t119 _ A3.out).mono ?_); rintro e w' ⟨rfl, ⟨nd, rfl⟩⟩; (try first | exact ⟨rfl, _, World.drewN_drewN _ _ _⟩ | exact ⟨rfl, _, Eq.trans (World.drewN_drewN _ _ _) (congrArg (World.drewN _) (Nat.add_assoc _ _ _))⟩)))
      repeat (go_quiet (first | (go_at_call 203; (with_reducible refine (stringslite_Index.calls a0 a1 t119 _ A3.out).mono ?_); rintro e w' ⟨rfl, ⟨nd, rfl⟩⟩; (try first | exact ⟨rfl, _, World.drewN_drewN _ _ _⟩ | exact ⟨rfl, _, Eq.trans (World.drewN_drewN _ _ _) (congrArg (World.drewN _) (Nat.add_assoc _ _ _))⟩))); try go_wp2_with (first | (go_at_call 203; (with_reducible refine (stringslite_Index.calls a0 a1 t119 _ A3.out).mono ?_); rintro e w' ⟨rfl, ⟨nd, rfl⟩⟩; (try first | exact ⟨rfl, _, World.drewN_drewN _ _ _⟩ | exact ⟨rfl, _, Eq.trans (World.drewN_drewN _ _ _) (congrArg (World.drewN _) (Nat.add_assoc _ _ _))⟩))))
      go_ret3
      exact ⟨by first | rfl | (simp; done) | (simp only [← hji7] <;> (first | rfl | simp)) | (simp [*]; done), by repeat (first | exact Drawn0.refl _ | apply Drawn0.step)⟩
     ·rw [if_neg c9] at H
      exact absurd H (by simp)
    ·rw [if_neg c8] at H
     exact absurd H (by simp)
   ·rw [if_neg c6] at H
    exact absurd H (by simp)
  ·rw [if_neg c5] at H
   exact absurd H (by simp)
 ·rw [if_neg c4] at H
  have c4b0 : decide (0 ≤ t119) = false := decide_eq_false c4
  clear c4
  simp only [Option.some.injEq, Prod.mk.injEq] at H
  obtain ⟨rfl, rfl, rfl⟩ := H
  go_enter Tryz.func193, Tryz.ntmps193
  go_wp2_with (first | (go_at_call 203; (with_reducible refine (stringslite_Index.calls a0 a1 t119 _ A3.out).mono ?_); rintro e w' ⟨rfl, ⟨nd, rfl⟩⟩; (try first | exact ⟨rfl, _, World.drewN_drewN _ _ _⟩ | exact ⟨rfl, _, Eq.trans (World.drewN_drewN _ _ _) (congrArg (World.drewN _) (Nat.add_assoc _ _ _))⟩)))
  repeat (go_quiet (first | (go_at_call 203; (with_reducible refine (stringslite_Index.calls a0 a1 t119 _ A3.out).mono ?_); rintro e w' ⟨rfl, ⟨nd, rfl⟩⟩; (try first | exact ⟨rfl, _, World.drewN_drewN _ _ _⟩ | exact ⟨rfl, _, Eq.trans (World.drewN_drewN _ _ _) (congrArg (World.drewN _) (Nat.add_assoc _ _ _))⟩))); try go_wp2_with (first | (go_at_call 203; (with_reducible refine (stringslite_Index.calls a0 a1 t119 _ A3.out).mono ?_); rintro e w' ⟨rfl, ⟨nd, rfl⟩⟩; (try first | exact ⟨rfl, _, World.drewN_drewN _ _ _⟩ | exact ⟨rfl, _, Eq.trans (World.drewN_drewN _ _ _) (congrArg (World.drewN _) (Nat.add_assoc _ _ _))⟩))))
  go_ret3
  exact ⟨by first | rfl | (simp; done) | (simp [*]; done), by repeat (first | exact Drawn0.refl _ | apply Drawn0.step)⟩
end Go.Proofs.YtjfcmkddeglghaaGreatDoor.G
end
section
namespace Go.Proofs.YtjfcmkddeglghaaGreatDoor.G
open Go.RowKit Go.Proofs.YtjfcmkddeglghaaGreatDoorW.PrintWords Go.Proofs.YtjfcmkddeglghaaGreatDoorW.PrintLast Go.Proofs.YtjfcmkddeglghaaGreatDoorW.PrintMore
attribute [local go_sem] max2_int min2_int max_two min_two max_three min_three max_four min_four
set_option linter.unusedVariables false
set_option linter.unusedSimpArgs false
def strings_Cut.f (a0 : ByteArray) (a1 : ByteArray) : Option (ByteArray × ByteArray × Bool) := (stringslite_Cut.f a0 a1).bind fun bt120 => (some (bt120.1, bt120.2.1, bt120.2.2))
set_option maxHeartbeats 8000000 in
set_option maxRecDepth 100000 in
theorem strings_Cut.calls (a0 : ByteArray) (a1 : ByteArray) (r1 : ByteArray) (r2 : ByteArray) (r3 : Bool) (w : World) (h : strings_Cut.f a0 a1 = some (r1, r2, r3)) :
  Calls Tryz.prog 172 #[.string a0, .string a1] w fun e w' => e = .returned (.tuple #[.string r1, .string r2, .bool r3]) ∧ Drawn0 w w' := by
 have H : ((stringslite_Cut.f a0 a1).bind fun bt120 => (some (bt120.1, bt120.2.1, bt120.2.2))) = some (r1, r2, r3) := h
 clear h
 obtain ⟨⟨t120, t121, t122⟩, A3, H⟩ := bo H
 replace H : (some (t120, t121, t122)) = some (r1, r2, r3) := H
 simp only [Option.some.injEq, Prod.mk.injEq] at H
 obtain ⟨rfl, rfl, rfl⟩ := H
 go_enter Tryz.func172, Tryz.ntmps172
 go_wp2_with (first | ((with_reducible refine gate_callee (f := 193) rfl ?_); refine gl 9 Tryz.func193 #[.string a0, .string a1] ?_; (with_reducible refine (stringslite_Cut.calls a0 a1 t120 t121 t122 _ A3.out).mono ?_); rintro e w' ⟨rfl, ⟨nd, rfl⟩⟩; refine ⟨_, rfl, ?_⟩))
 go_ret3
 exact ⟨by first | rfl | (simp; done) | (simp [*]; done), by repeat (first | exact Drawn0.refl _ | apply Drawn0.step)⟩
end Go.Proofs.YtjfcmkddeglghaaGreatDoor.G
end
section
namespace Go.Proofs.YtjfcmkddeglghaaGreatDoor.G
open Go.RowKit Go.Lib Go.Proofs.YtjfcmkddeglghaaGreatDoorW.PrintWords Go.Proofs.YtjfcmkddeglghaaGreatDoorW.PrintLast
set_option linter.unusedVariables false
set_option linter.unusedSimpArgs false
def mayTab (l : List Int) : Array Value := l.foldl (fun c x => if 0 ≤ x ∧ x < 10 then c.setIfInBounds x.toNat (.bool true) else c) (Array.replicate 10 (.bool false))
theorem mayTab_snoc (l : List Int) (x : Int) : mayTab (l ++ [x]) = if 0 ≤ x ∧ x < 10 then (mayTab l).setIfInBounds x.toNat (.bool true) else mayTab l := by
  unfold mayTab; rw [List.foldl_append]; rfl
theorem mayFold (l : List Int) : ∀ c : Array Value, c.size = 10 → (l.foldl (fun c x => if 0 ≤ x ∧ x < 10 then c.setIfInBounds x.toNat (.bool true) else c) c).size = 10 ∧
    ∀ j b, j < 10 → c[j]? = some (.bool b) → (l.foldl (fun c x => if 0 ≤ x ∧ x < 10 then c.setIfInBounds x.toNat (.bool true) else c) c)[j]? = some (.bool (b || l.contains (j : Int))) := by
  induction l with
  | nil => intro c h; exact ⟨h, fun j b hj hb => by simpa using hb⟩
  | cons x l ih =>
    intro c h
    simp only [List.foldl_cons]
    by_cases hx : 0 ≤ x ∧ x < 10
    · rw [if_pos hx]
      obtain ⟨h1, h2⟩ := ih (c.setIfInBounds x.toNat (.bool true)) (by rw [Array.size_setIfInBounds]; exact h)
      refine ⟨h1, fun j b hj hb => ?_⟩
      by_cases e : x.toNat = j
      · have e' : x = (j : Int) := by omega
        rw [h2 j true hj (by rw [Array.getElem?_setIfInBounds, if_pos e, if_pos (by omega)])]
        simp [e']
      · rw [h2 j b hj (by rw [Array.getElem?_setIfInBounds, if_neg e]; exact hb)]
        have : ¬ (j : Int) = x := by omega
        simp [this]
    · rw [if_neg hx]
      obtain ⟨h1, h2⟩ := ih c h
      refine ⟨h1, fun j b hj hb => ?_⟩
      rw [h2 j b hj hb]
      have : ¬ (j : Int) = x := by omega
      simp [this]
theorem mayTab_at (l : List Int) (j : Nat) (hj : j < 10) : (mayTab l)[j]? = some (.bool (l.contains (j : Int))) := by
  have := (mayFold l (Array.replicate 10 (.bool false)) (by simp)).2 j false hj (by simp [hj])
  simpa [mayTab] using this
def octAll (s : List UInt8) (of : List Int) : Bool := s.all fun c => of.contains ((octClass c : Nat) : Int)
def octet_All.f (a0 : ByteArray) (l1 : List Int) : Option Bool := if a0.size ≤ 9223372036854775807 then some (octAll a0.data.toList l1) else none
theorem heap_setCell_at {w : World} {B j : Nat} {cs : Array Value} {t : TypeId} {fr : Nat × Nat} (h : w.heap[B]? = some (.cells cs t fr)) (v : Value) : (w.setCell ⟨B, j, none⟩ v).heap[B]? = some (.cells (cs.setIfInBounds j v) t fr) := by
  obtain ⟨hlt, hk⟩ := Array.getElem?_eq_some_iff.1 h
  show (w.heap.modify B _)[B]? = _
  rw [Array.getElem?_eq_getElem (by rw [Array.size_modify]; exact hlt), Array.getElem_modify_self, hk]
  rfl
set_option maxHeartbeats 8000000 in
set_option maxRecDepth 1000000 in
theorem octet_All.calls (a0 : ByteArray) (A1 : Option Addr) (c1 : Nat) (l1 : List Int) (r : Bool) (w : World) (hr1 : Kd.C (Kd.int .i64) w A1 l1.length l1) (hc1 : l1.length ≤ c1) (h : octet_All.f a0 l1 = some r) :
    Calls Tryz.prog 194 #[.string a0, .slice A1 l1.length c1] w fun e w' => e = .returned (.bool r) ∧ Below w.heap.size w w' := by
  have HR1 := Aside0.mk hr1
  unfold octet_All.f at h
  split at h
  case isFalse => cases h
  rename_i hsz
  obtain rfl := Option.some.inj h
  clear h hr1
  have hll : l1.length ≤ 9223372036854775807 := HR1.out.2.1
  go_enter Tryz.func194, Tryz.ntmps194
  go_wp2_with (go_at_call 204; refine (octet_classes.calls _).mono ?_; rintro e w' ⟨rfl, rfl⟩)
  have hsc := run_storeCells_new (P := Tryz.prog) (w.alloc (.cells (octTab (octDone 10)) 220)) 220 Tryz.zeroCells220 (octTab (octDone 10)) (by rw [octTab_size]; exact octInfo) (by rw [octTab_size]; kernel_rfl) (octTab_one _)
  have Hsc := Lib.hid hsc
  clear hsc
  simp only [World.size_alloc] at *
  rw [Hsc.out]
  simp only [Result.andThen]
  rw [Oper.upon_skip]
  go_wp2
  go_loopg [13] l1.length (fun g s13 wx => ∃ k : Nat, k + g = l1.length ∧ s13 = .int .i64 k ∧ wx.heap[w.heap.size + 1]? = some (.cells (octTab (octDone 10)) 220 (0, 0)) ∧ wx.heap[w.heap.size + 1 + 1]? = some (.cells (mayTab (l1.take k)) 222 (0, 0)) ∧ Aside0 (Below w.heap.size w wx))
  case atStart =>
    refine ⟨0, by omega, rfl, ?_, ?_, ⟨?_⟩⟩
    · refine (Below.heap_alloc _ _ (w.heap.size + 1) (by rw [World.size_alloc, World.size_alloc]; omega)).trans ?_
      have h1 := heap_alloc_new (w.alloc (.cells (octTab (octDone 10)) 220)) (.cells (octTab (octDone 10)) 220)
      rw [World.size_alloc] at h1
      exact h1
    · have h1 := fun o => heap_alloc_new ((w.alloc (.cells (octTab (octDone 10)) 220)).alloc (.cells (octTab (octDone 10)) 220)) o
      simp only [World.size_alloc] at h1
      exact h1 _
    · exact (((Below.refl _ _).alloc (Nat.le_refl _) _).alloc (by simp) _).alloc (by simp; omega) _
  case round =>
    obtain ⟨k, hkg, rfl, hB1, hB2, hb⟩ := hrel
    cases gk with
    | zero =>
      obtain rfl : k = l1.length := by omega
      rw [List.take_length] at hB2
      have hlt : ¬ ((l1.length : Int) < (l1.length : Int)) := by omega
      go_wp2
      go_loopg [28] a0.size (fun g s28 wx => ∃ i : Nat, i + g = a0.size ∧ s28 = .int .i64 i ∧ Aside0 (octAll (a0.data.toList.take i) l1 = true) ∧ wx.heap[w.heap.size + 1]? = some (.cells (octTab (octDone 10)) 220 (0, 0)) ∧ wx.heap[w.heap.size + 1 + 1]? = some (.cells (mayTab l1) 222 (0, 0)) ∧ Aside0 (Below w.heap.size w wx))
      case atStart => exact ⟨0, by omega, rfl, ⟨rfl⟩, hB1, hB2, hb⟩
      case round =>
        clear hB1 hB2 hb hlt hkg
        obtain ⟨i, hig, rfl, hal, hB1, hB2, hb⟩ := hrel
        cases gk with
        | zero =>
          obtain rfl : i = a0.size := by omega
          have hlt : ¬ ((a0.size : Int) < (a0.size : Int)) := by omega
          have hal2 := hal.out
          rw [List.take_of_length_le (by rw [← Lib.size_eq]; exact Nat.le_refl _)] at hal2
          have HAL := Aside0.mk hal2
          clear hal2 hal hB1 hB2
          go_wp2
          go_ret
          exact ⟨by rw [HAL.out]; rfl, hb.out⟩
        | succ g2 =>
          have hlt : (i : Int) < (a0.size : Int) := by omega
          have hi : i < a0.size := by omega
          obtain ⟨x, hx⟩ : ∃ x : UInt8, a0[i]'hi = x := ⟨_, rfl⟩
          have hx256 : (x.toNat : Int) < 256 := by have := UInt8.toNat_lt x; omega
          have hcl : ((octClass x : Nat) : Int) < 10 := by have := octClass_lt x; omega
          have Hx : Aside0 (a0.data.toList[i]? = some x) := ⟨by rw [← hx]; exact Lib.data_getElem? _ i hi⟩
          have hc1' : wr.cell? ⟨w.heap.size + 1, x.toNat, none⟩ = some (.int .i64 ((octClass x : Nat) : Int)) := by
            rw [cell_of_row _ _ _ _ _ _ hB1]; exact octTab_at x
          have hc2' : wr.cell? ⟨w.heap.size + 1 + 1, octClass x, none⟩ = some (.bool (l1.contains ((octClass x : Nat) : Int))) := by
            rw [cell_of_row _ _ _ _ _ _ hB2]; exact mayTab_at _ _ (octClass_lt x)
          have HB1 := Aside0.mk hB1
          have HB2 := Aside0.mk hB2
          clear hB1 hB2
          cases hcon : l1.contains ((octClass x : Nat) : Int) with
          | true =>
            rw [hcon] at hc2'
            have Hcon := Aside0.mk hcon
            clear hcon
            go_wp2
            go_roundg g2
            case measure => omega
            case rel => exact ⟨i + 1, by omega, by first | rfl | simp, ⟨by unfold octAll; rw [List.take_add_one, Hx.out, List.all_append]; simp only [Option.toList, List.all_cons, List.all_nil, Hcon.out, Bool.and_true]; exact hal.out⟩, HB1.out, HB2.out, hb⟩
          | false =>
            rw [hcon] at hc2'
            have Hcon := Aside0.mk hcon
            clear hcon
            go_wp2
            go_ret
            refine ⟨?_, hb.out⟩
            have : octAll a0.data.toList l1 = false := by
              unfold octAll
              rw [List.all_eq_false]
              exact ⟨x, List.mem_of_getElem? Hx.out, by rw [Hcon.out]; simp⟩
            rw [this]; rfl
    | succ g =>
      have hk : (k : Int) < (l1.length : Int) := by omega
      obtain ⟨ad, e1, hx⟩ := Kd.at_int (Kd.C_below HR1.out hb.out) (k : Int) (by omega) hk
      cases e1
      rw [Int.toNat_natCast] at hx
      by_cases hx1 : 0 ≤ rd l1 (k : Int) ∧ rd l1 (k : Int) < 10
      · obtain ⟨hx0, hx10⟩ := hx1
        have hcell : wr.cell? ⟨w.heap.size + 1 + 1, (rd l1 (k : Int)).toNat, none⟩ = some (.bool ((l1.take k).contains (((rd l1 (k : Int)).toNat : Nat) : Int))) := by
          rw [cell_of_row _ _ _ _ _ _ hB2]; exact mayTab_at _ _ (by omega)
        have hfro : wr.frozen? ⟨w.heap.size + 1 + 1, (rd l1 (k : Int)).toNat, none⟩ = false := by
          simp [World.frozen?, hB2]
        have HB1 := Aside0.mk hB1
        have HB2 := Aside0.mk hB2
        have HX := Aside0.mk (And.intro hx0 hx10)
        have hr1 : decide (0 ≤ rd l1 (k : Int)) = true := decide_eq_true hx0
        have hr2 : decide (rd l1 (k : Int) < 10) = true := decide_eq_true hx10
        clear hB1 hB2
        go_wp2
        go_roundg g
        case measure => omega
        case rel =>
          refine ⟨k + 1, by omega, by first | rfl | simp, ?_, ?_, ⟨hb.out.setCell (by simp; omega) _⟩⟩
          · rw [Below.heap_setCell _ _ _ _ (by simp)]; exact HB1.out
          · have hg : l1[k]? = some (rd l1 (k : Int)) := by unfold rd; rw [Int.toNat_natCast, List.getD_eq_getElem?_getD, List.getElem?_eq_getElem (by omega)]; rfl
            rw [heap_setCell_at HB2.out, List.take_add_one, hg]
            simp only [Option.toList]
            rw [mayTab_snoc, if_pos HX.out]
      · have HX := Aside0.mk hx1
        have HB1 := Aside0.mk hB1
        have HB2 := Aside0.mk hB2
        clear hB1 hB2
        by_cases hx0 : 0 ≤ rd l1 (k : Int)
        · have hr1 : decide (0 ≤ rd l1 (k : Int)) = true := decide_eq_true hx0
          have hr2 : decide (rd l1 (k : Int) < 10) = false := decide_eq_false (by omega)
          clear hx1
          go_wp2
          go_roundg g
          case measure => omega
          case rel =>
            refine ⟨k + 1, by omega, by first | rfl | simp, HB1.out, ?_, hb⟩
            have hg : l1[k]? = some (rd l1 (k : Int)) := by unfold rd; rw [Int.toNat_natCast, List.getD_eq_getElem?_getD, List.getElem?_eq_getElem (by omega)]; rfl
            rw [HB2.out, List.take_add_one, hg]
            simp only [Option.toList]
            rw [mayTab_snoc, if_neg HX.out]
        · have hr1 : decide (0 ≤ rd l1 (k : Int)) = false := decide_eq_false hx0
          clear hx1
          go_wp2
          go_roundg g
          case measure => omega
          case rel =>
            refine ⟨k + 1, by omega, by first | rfl | simp, HB1.out, ?_, hb⟩
            have hg : l1[k]? = some (rd l1 (k : Int)) := by unfold rd; rw [Int.toNat_natCast, List.getD_eq_getElem?_getD, List.getElem?_eq_getElem (by omega)]; rfl
            rw [HB2.out, List.take_add_one, hg]
            simp only [Option.toList]
            rw [mayTab_snoc, if_neg HX.out]
end Go.Proofs.YtjfcmkddeglghaaGreatDoor.G
end
section
namespace Go.Proofs.YtjfcmkddeglghaaGreatDoor.G
open Go.RowKit Go.Proofs.YtjfcmkddeglghaaGreatDoorW.PrintWords Go.Proofs.YtjfcmkddeglghaaGreatDoorW.PrintLast Go.Proofs.YtjfcmkddeglghaaGreatDoorW.PrintMore
attribute [local go_sem] max2_int min2_int max_two min_two max_three min_three max_four min_four
set_option linter.unusedVariables false
set_option linter.unusedSimpArgs false
def number_May.f (a0 : ByteArray) : Option (Bool) := if a0.toList = ([] : List UInt8) then (some false) else ((octet_All.f a0 (([1] : List Int))).bind fun t126 => (if t126 = true then (if 0 < (a0.size : Int) then (if (bt a0 0) = 48 then (some ((a0.size : Int) == 1)) else (some true)) else (none)) else (some false)))
set_option maxHeartbeats 8000000 in
set_option maxRecDepth 100000 in
theorem number_May.calls (a0 : ByteArray) (r : Bool) (w : World) (h : number_May.f a0 = some r) :
  Calls Tryz.prog 173 #[.string a0] w fun e w' => e = .returned (.bool r) ∧ Below w.heap.size w w' := by
 have HB := Aside0.mk (Below.refl w.heap.size w)
 have H : (if a0.toList = ([] : List UInt8) then (some false) else ((octet_All.f a0 (([1] : List Int))).bind fun t126 => (if t126 = true then (if 0 < (a0.size : Int) then (if (bt a0 0) = 48 then (some ((a0.size : Int) == 1)) else (some true)) else (none)) else (some false)))) = some r := h
 clear h
 by_cases c2 : a0.toList = ([] : List UInt8)
 ·rw [if_pos c2] at H
  have c2b0 := beq_iff_eq.mpr c2
  (try (have c2b0i := c2b0; simp only [show ∀ l_ : List UInt8, (l_ == []) = l_.isEmpty from fun l_ => by cases l_ <;> rfl] at c2b0i))
  have c2b1 := bne_eq_false_iff_eq.mpr c2
  clear c2
  obtain rfl := Option.some.inj H
  go_enter Tryz.func173, Tryz.ntmps173
  go_wp2
  go_ret
  exact ⟨by first | rfl | (simp [errW_none, errW_some] <;> rfl) | (simp [*, errW_none, errW_some] <;> rfl), ba HB⟩
 ·rw [if_neg c2] at H
  have c2b0 := beq_eq_false_iff_ne.mpr c2
  (try (have c2b0i := c2b0; simp only [show ∀ l_ : List UInt8, (l_ == []) = l_.isEmpty from fun l_ => by cases l_ <;> rfl] at c2b0i))
  have c2b1 := bne_iff_ne.mpr c2
  obtain ⟨y123, hy123⟩ : ∃ y_ : List Int, y_ = (([1] : List Int)) := ⟨_, rfl⟩
  replace H : ((octet_All.f a0 y123).bind fun t126 => (if t126 = true then (if 0 < (a0.size : Int) then (if (bt a0 0) = 48 then (some ((a0.size : Int) == 1)) else (some true)) else (none)) else (some false))) = some r := by first | (rw [hy123]; with_reducible exact H) | (have H2_ := (Option.bind_some _ _).symm.trans H; rw [hy123]; with_reducible exact H2_) | (have H2_ := (Option.bind_some _ _).symm.trans H; with_reducible exact H2_) | with_reducible exact H | (rw [hy123]; exact H) | exact H
  have Ny123 := Aside0.mk hy123
  clear hy123
  obtain ⟨t126, A3, H⟩ := bo H
  by_cases c4 : t126 = true
  ·subst c4
   replace H := it H
   by_cases c5 : 0 < (a0.size : Int)
   ·rw [if_pos c5] at H
    have c5b0 : decide (0 < (a0.size : Int)) = true := decide_eq_true c5
    have c5b1 : decide (0 < a0.size) = true := decide_eq_true (by omega)
    clear c5
    by_cases c7 : (bt a0 0) = 48
    ·rw [if_pos c7] at H
     have c7b0 := beq_iff_eq.mpr c7
     have c7b1 := bne_eq_false_iff_eq.mpr c7
     clear c7
     obtain rfl := Option.some.inj H
     go_enter Tryz.func173, Tryz.ntmps173
     go_wp2_with (first | ((with_reducible refine gate_dst (N := 7) rfl ?_); (try (refine gate_guard (by rfl) ?_; dsimp only)); refine Kd.R_lit (Kd.int .i64) _ 3 ?hg (N := 7) ?hd (xs := ([1] : List Int)) (inner := [.int .i64 1]) (ok := fun _ => True) (okp := fun _ => True) ?hr ?hp (fun _ hk => hk) trivial (Below.refl _ _) (Nat.le_refl _) (by simp) ?_; (case hd => rfl); (case hg => rfl); (case hr => first | (go_simp; done) | (go_simp; rfl)); (case hp => exact (Reps.one (show Kd.M (Kd.int .i64) _ _ _ 1 [.int .i64 1] from rfl) (Reps.none _ _))); intro v124 w8 ho9 hb hg_ hnew_; clear hg_ hnew_; (first | rw [← Ny123.out] at ho9 | (simp only [Int.reduceToNat] at ho9; rw [← Ny123.out] at ho9)); have n0_ := Aside0.mk (Kd.R_lower ho9 (bz HB)); have n1_ := bs HB hb; revert n0_ n1_; clear HB; intro HO125 HB; clear hb ho9; obtain ⟨Ao10, co10, eo10⟩ := Kd.R_slice HO125.out; subst eo10) | (go_at_call 194; (with_reducible refine (octet_All.calls a0 _ _ y123 true _ ?side1 ?side2 A3.out).mono ?_); (case side1 => repeat (first | exact (Kd.R_reads' HO125.out).2.2 | (with_reducible refine Kd.C_alloc ?_ _) | (with_reducible refine Kd.C_drewN ?_ _) | (with_reducible refine Kd.C_drew ?_))); (case side2 => exact (Kd.R_reads' HO125.out).2.1); rintro e w11 ⟨rfl, hb⟩; have n0_ := rb HO125 hb; have n1_ := bs HB hb; revert n0_ n1_; clear HO125 HB; intro HO125 HB; (try clear hb); have p6 : 0 ≤ (0 : Int) := (by omega); have q6 : 0 < a0.size := (by have : (0 : Int) < (a0.size : Int) := of_decide_eq_true (by first | (with_reducible assumption) | assumption); omega); have hx6 : ∀ h : 0 < a0.size, ((a0[0]'h).toNat : Int) = bt a0 0 := bt_at a0 0; clear p6; have qi6 : (0 < (a0.size : Int)) = True := eq_true (of_decide_eq_true (by first | (with_reducible assumption) | assumption)); replace q6 := eq_true q6))
     go_ret
     exact ⟨by first | rfl | (simp [errW_none, errW_some] <;> rfl) | (simp [*, errW_none, errW_some] <;> rfl), ba HB⟩
    ·rw [if_neg c7] at H
     have c7b0 := beq_eq_false_iff_ne.mpr c7
     have c7b1 := bne_iff_ne.mpr c7
     obtain rfl := Option.some.inj H
     go_enter Tryz.func173, Tryz.ntmps173
     go_wp2_with (first | ((with_reducible refine gate_dst (N := 7) rfl ?_); (try (refine gate_guard (by rfl) ?_; dsimp only)); refine Kd.R_lit (Kd.int .i64) _ 3 ?hg (N := 7) ?hd (xs := ([1] : List Int)) (inner := [.int .i64 1]) (ok := fun _ => True) (okp := fun _ => True) ?hr ?hp (fun _ hk => hk) trivial (Below.refl _ _) (Nat.le_refl _) (by simp) ?_; (case hd => rfl); (case hg => rfl); (case hr => first | (go_simp; done) | (go_simp; rfl)); (case hp => exact (Reps.one (show Kd.M (Kd.int .i64) _ _ _ 1 [.int .i64 1] from rfl) (Reps.none _ _))); intro v124 w12 ho13 hb hg_ hnew_; clear hg_ hnew_; (first | rw [← Ny123.out] at ho13 | (simp only [Int.reduceToNat] at ho13; rw [← Ny123.out] at ho13)); have n0_ := Aside0.mk (Kd.R_lower ho13 (bz HB)); have n1_ := bs HB hb; revert n0_ n1_; clear HB; intro HO125 HB; clear hb ho13; obtain ⟨Ao14, co14, eo14⟩ := Kd.R_slice HO125.out; subst eo14) | (go_at_call 194; (with_reducible refine (octet_All.calls a0 _ _ y123 true _ ?side1 ?side2 A3.out).mono ?_); (case side1 => repeat (first | exact (Kd.R_reads' HO125.out).2.2 | (with_reducible refine Kd.C_alloc ?_ _) | (with_reducible refine Kd.C_drewN ?_ _) | (with_reducible refine Kd.C_drew ?_))); (case side2 => exact (Kd.R_reads' HO125.out).2.1); rintro e w15 ⟨rfl, hb⟩; have n0_ := rb HO125 hb; have n1_ := bs HB hb; revert n0_ n1_; clear HO125 HB; intro HO125 HB; (try clear hb); have p6 : 0 ≤ (0 : Int) := (by omega); have q6 : 0 < a0.size := (by have : (0 : Int) < (a0.size : Int) := of_decide_eq_true (by first | (with_reducible assumption) | assumption); omega); have hx6 : ∀ h : 0 < a0.size, ((a0[0]'h).toNat : Int) = bt a0 0 := bt_at a0 0; clear p6; have qi6 : (0 < (a0.size : Int)) = True := eq_true (of_decide_eq_true (by first | (with_reducible assumption) | assumption)); replace q6 := eq_true q6))
     go_ret
     exact ⟨by first | rfl | (simp [errW_none, errW_some] <;> rfl) | (simp [*, errW_none, errW_some] <;> rfl), ba HB⟩
   ·rw [if_neg c5] at H
    exact absurd H (by simp)
  ·replace c4 := Bool.eq_false_iff.mpr c4
   subst c4
   replace H := jf H
   obtain rfl := Option.some.inj H
   go_enter Tryz.func173, Tryz.ntmps173
   go_wp2_with (first | ((with_reducible refine gate_dst (N := 7) rfl ?_); (try (refine gate_guard (by rfl) ?_; dsimp only)); refine Kd.R_lit (Kd.int .i64) _ 3 ?hg (N := 7) ?hd (xs := ([1] : List Int)) (inner := [.int .i64 1]) (ok := fun _ => True) (okp := fun _ => True) ?hr ?hp (fun _ hk => hk) trivial (Below.refl _ _) (Nat.le_refl _) (by simp) ?_; (case hd => rfl); (case hg => rfl); (case hr => first | (go_simp; done) | (go_simp; rfl)); (case hp => exact (Reps.one (show Kd.M (Kd.int .i64) _ _ _ 1 [.int .i64 1] from rfl) (Reps.none _ _))); intro v124 w16 ho17 hb hg_ hnew_; clear hg_ hnew_; (first | rw [← Ny123.out] at ho17 | (simp only [Int.reduceToNat] at ho17; rw [← Ny123.out] at ho17)); have n0_ := Aside0.mk (Kd.R_lower ho17 (bz HB)); have n1_ := bs HB hb; revert n0_ n1_; clear HB; intro HO125 HB; clear hb ho17; obtain ⟨Ao18, co18, eo18⟩ := Kd.R_slice HO125.out; subst eo18) | (go_at_call 194; (with_reducible refine (octet_All.calls a0 _ _ y123 false _ ?side1 ?side2 A3.out).mono ?_); (case side1 => repeat (first | exact (Kd.R_reads' HO125.out).2.2 | (with_reducible refine Kd.C_alloc ?_ _) | (with_reducible refine Kd.C_drewN ?_ _) | (with_reducible refine Kd.C_drew ?_))); (case side2 => exact (Kd.R_reads' HO125.out).2.1); rintro e w19 ⟨rfl, hb⟩; have n0_ := rb HO125 hb; have n1_ := bs HB hb; revert n0_ n1_; clear HO125 HB; intro HO125 HB; (try clear hb)))
   go_ret
   exact ⟨by first | rfl | (simp [errW_none, errW_some] <;> rfl) | (simp [*, errW_none, errW_some] <;> rfl), ba HB⟩
end Go.Proofs.YtjfcmkddeglghaaGreatDoor.G
end
section
namespace Go.Proofs.YtjfcmkddeglghaaGreatDoor.G
open Go.RowKit Gw Go.Proofs.YtjfcmkddeglghaaGreatDoorW.PrintWords Go.Proofs.YtjfcmkddeglghaaGreatDoorW.PrintLast
set_option linter.unusedVariables false
set_option linter.unusedSimpArgs false
theorem strings_IndexByte.exact (a0 : ByteArray) (a1 : Int) (w : World) :
    Calls Tryz.prog 223 #[.string a0, .int .u8 a1] w fun e w' => e = .returned (.int .i64 (Lib.indexByte a0.data.toList a1.toNat.toUInt8)) ∧ w' = w := by
  go_enter Tryz.func223, Tryz.ntmps223
  go_wp2_with (go_at_call 210; refine (stringslite_IndexByte.exact _ _ _ _ rfl).mono ?_; rintro e w' ⟨rfl, hw⟩; rw [hw])
  go_ret
  exact ⟨rfl, rfl⟩
set_option maxHeartbeats 2000000 in
set_option maxRecDepth 1000000 in
theorem strings_IndexRune_low (s : ByteArray) (r : Int) (w : World) (h0 : 0 ≤ r) (h1 : r < 128) :
    Calls Tryz.prog 214 #[.string s, .int .i32 r] w fun e w' => e = .returned (.int .i64 (Lib.indexByte s.data.toList r.toNat.toUInt8)) ∧ w' = w := by
  go_enter Tryz.func214, Tryz.ntmps214
  go_wp2_with (go_at_call 223; refine (strings_IndexByte.exact _ _ _).mono ?_; rintro e w' ⟨rfl, hw⟩; rw [hw])
  go_ret
  exact ⟨rfl, rfl⟩
def SomeB (e : Ending) : Prop := ∃ b : Bool, e = .returned (.bool b)
theorem utf8_ValidRune.exact (r : Int) (w : World) :
    Calls Tryz.prog 224 #[.int .i32 r] w fun e w' => SomeB e ∧ w' = w := by
  go_enter Tryz.func224, Tryz.ntmps224
  go_wp2
  all_goals (go_ret; exact ⟨⟨_, rfl⟩, rfl⟩)
theorem encode_tail (r : Int) (h : 128 ≤ r) : ∃ (n : Nat) (b : UInt8), (Utf8.encode r).size = n + 1 ∧ (n = 1 ∨ n = 2 ∨ n = 3) ∧ (Utf8.encode r).data.toList[n]? = some b ∧ 128 ≤ b.toNat := by
  have hm : ∀ x : Nat, 128 ≤ (UInt8.ofNat (0x80 + x % 64)).toNat := by intro x; rw [UInt8.toNat_ofNat']; omega
  have hc : 128 ≤ (if Utf8.valid r then r.toNat else Utf8.runeError) := by split <;> (try unfold Utf8.runeError) <;> omega
  unfold Utf8.encode
  simp only
  generalize (if Utf8.valid r then r.toNat else Utf8.runeError) = c at hc ⊢
  rw [if_neg (by omega)]
  split
  · exact ⟨1, _, rfl, by omega, rfl, hm _⟩
  · split
    · exact ⟨2, _, rfl, by omega, rfl, hm _⟩
    · exact ⟨3, _, rfl, by omega, rfl, hm _⟩
theorem byte_mem {s : ByteArray} {n : Nat} (hn : n < s.size) : s[n]'hn ∈ s.data.toList := Array.getElem_mem_toList (xs := s.data) hn
theorem byte_at {s : ByteArray} {n : Nat} {b : UInt8} (h : s.data.toList[n]? = some b) (hn : n < s.size) : s[n]'hn = b := by
  obtain ⟨h1, h2⟩ := List.getElem?_eq_some_iff.1 h
  rw [← h2]
  rfl
set_option maxHeartbeats 8000000 in
set_option maxRecDepth 1000000 in
theorem strings_IndexRune_high (s : ByteArray) (r : Int) (w : World) (h0 : 128 ≤ r) (hr : r ≠ 65533) (h3 : s.size = 3) (hs : ∀ x ∈ s.data.toList, x.toNat < 128) :
    Calls Tryz.prog 214 #[.string s, .int .i32 r] w fun e w' => e = .returned (.int .i64 (-1)) ∧ Below w.heap.size w w' := by
  have c1 : decide (r < 128) = false := decide_eq_false (by omega)
  have c2 : (r == 65533) = false := beq_eq_false_iff_ne.2 hr
  obtain ⟨n, b, hn, hn3, hb, hb128⟩ := encode_tail r h0
  obtain ⟨rs, hrs⟩ : ∃ rs, Utf8.encode r = rs := ⟨_, rfl⟩
  have hcv : ∀ w : World, (convert 21 9 (.int .i32 r)).run Tryz.prog w = .ok (.string rs) w := by
    intro w
    rw [run_convert_int_string w _ _ _ _ (by kernel_rfl) (by kernel_rfl), hrs]
  rw [hrs] at hn hb
  clear hrs
  have hnr : n < rs.size := by omega
  have hbn := byte_at hb hnr
  go_enter Tryz.func214, Tryz.ntmps214
  go_wp2_with (go_at_call 224; refine (utf8_ValidRune.exact _ _).mono ?_; rintro e w' ⟨⟨bv, rfl⟩, hw⟩; rw [hw])
  · go_ret
    exact ⟨rfl, Below.refl _ _⟩
  · go_step3
    go_wp2
    go_loopg [9] 0 (fun g s9 wx => s9 = .int .i64 n ∧ wx = w)
    case atStart => exact ⟨rfl, rfl⟩
    case round =>
      obtain ⟨rfl, rfl⟩ := hrel
      by_cases hlt : n < 3
      · have hns : n < s.size := by omega
        obtain ⟨x, hx⟩ : ∃ x : UInt8, s[n]'hns = x := ⟨_, rfl⟩
        have hxm : x.toNat < 128 := hs x (by rw [← hx]; exact byte_mem _)
        have hne : ((x.toNat : Int) != (b.toNat : Int)) = true := by rw [bne_iff_ne]; omega
        have hltz : (n : Int) < (s.size : Int) := by omega
        have hltr : (n : Int) < (rs.size : Int) := by omega
        have hix : Lib.indexByte (s.extract (n + 1) s.size).data.toList b = -1 := by
          refine (index_none b _ fun hm => ?_).1
          have := hs b (mem_extract hm)
          omega
        have hback : ((b.toNat : Int)).toNat.toUInt8 = b := by simp
        have hw1 : IntKind.i64.wrap ((n : Int) + 1) = (n : Int) + 1 := IntWalk.i64_in _ (by omega)
        have hp1 : (0 : Int) ≤ (n : Int) + 1 := by omega
        have ht1 : ((n : Int) + 1).toNat = n + 1 := by omega
        have hle1 : (n : Int) + 1 ≤ (s.size : Int) := by omega
        have hI : ∀ w : World, Calls Tryz.prog 223 #[.string (s.extract (n + 1) s.size), .int .u8 (b.toNat : Int)] w fun e w' => e = .returned (.int .i64 (-1)) ∧ ∃ m, w' = w.drewN m := by
          intro w
          refine (strings_IndexByte.exact _ _ _).mono fun e w' h => ⟨?_, 0, ?_⟩
          · rw [h.1, hback, hix]
          · rw [h.2]; rfl
        clear hix hback
        clear hs hb hn hn3 h3 hb128 hxm
        go_wp2
        go_step3
        go_wp2_with fail
        go_quiet (fail)
        go_wp2
        have HB := Aside0.mk (pw_below_drewN (Below.refl wr.heap.size wr) nq)
        generalize wr.drewN nq = w2 at HB ⊢
        go_quiet (first | (go_at_call 223; refine Calls.quiet_of (hI _)))
        go_wp2
        rw [Exit.noGoto_ret]
        go_wp2
        rw [Exit.noGoto_ret]
        go_wp2
        go_ret
        exact ⟨rfl, pw_below_drewN HB.out _⟩
      · have hltz : ¬ ((n : Int) < (s.size : Int)) := by omega
        go_wp2
        go_ret
        exact ⟨rfl, Below.refl _ _⟩
open Go.Lib in
set_option maxHeartbeats 8000000 in
set_option maxRecDepth 1000000 in
theorem strings_IndexRune_bad (s : ByteArray) (w : World) (h3 : s.size ≤ 4294967296) (hs : ∀ x ∈ s.data.toList, x.toNat < 128) :
    Calls Tryz.prog 214 #[.string s, .int .i32 65533] w fun e w' => e = .returned (.int .i64 (-1)) ∧ Below w.heap.size w w' := by
  have HS := Aside0.mk hs
  clear hs
  go_enter Tryz.func214, Tryz.ntmps214
  go_wp2
  go_loopg [5, 6] s.size (fun g _ _ wx => ∃ i : Nat, i + g = s.size ∧ wx.heap[w.heap.size]? = some (.stringIter s i) ∧ Aside0 (Below w.heap.size w wx))
  case atStart => exact ⟨0, by omega, World.iter_heap _ _ _, ⟨(Below.refl _ _).alloc (Nat.le_refl _) _⟩⟩
  case round =>
    obtain ⟨i, hig, hB, hb⟩ := hrel
    cases gk with
    | zero =>
      obtain rfl : i = s.size := by omega
      have hnx := fun ty => run_next_end_at (P := Tryz.prog) wr w.heap.size s s.size ty hB (by omega)
      have HB := Aside0.mk hB
      clear hB
      go_wp2
      go_ret
      exact ⟨rfl, hb.out⟩
    | succ g =>
      have hi : i < s.size := by omega
      obtain ⟨x, hx⟩ : ∃ x : UInt8, s[i]'hi = x := ⟨_, rfl⟩
      have hx128 : x.toNat < 128 := HS.out x (by rw [← hx]; exact byte_mem _)
      have hnx := fun ty => run_next_ascii_at (P := Tryz.prog) wr w.heap.size s i ty hB hi (by rw [hx]; exact hx128)
      rw [hx] at hnx
      have hne : ((x.toNat : Int) == 65533) = false := beq_eq_false_iff_ne.2 (by omega)
      have HB := Aside0.mk hB
      clear hB
      go_wp2
      go_roundg g
      case measure => omega
      case rel => exact ⟨i + 1, by omega, iterAt_heap _ _ _ _ _ HB.out, ⟨below_iterAt hb.out (Nat.le_refl _) _ _⟩⟩
abbrev markL : List UInt8 := [46, 95, 126]
theorem mark_high (c : UInt8) (h : 128 ≤ c.toNat) : markL.contains c = false := by
  have h1 : ¬ c = 46 := by rintro rfl; revert h; decide
  have h2 : ¬ c = 95 := by rintro rfl; revert h; decide
  have h3 : ¬ c = 126 := by rintro rfl; revert h; decide
  simp [h1, h2, h3]
theorem mark_low : ∀ x ∈ (ofL markL).data.toList, x.toNat < 128 := by decide
theorem decode_bytes (s : ByteArray) (i : Nat) (hi : i < s.size) (h : 128 ≤ (s[i]'hi).toNat) :
    128 ≤ (Utf8.decode s i).1 ∧ 1 ≤ (Utf8.decode s i).2 ∧ i + (Utf8.decode s i).2 ≤ s.size ∧ ∀ k x, i ≤ k → k < i + (Utf8.decode s i).2 → s.data.toList[k]? = some x → 128 ≤ x.toNat := by
  have hg : ∀ j x, s.data.toList[j]? = some x → s.get! j = x := by
    intro j x hx
    obtain ⟨h1, h2⟩ := List.getElem?_eq_some_iff.1 hx
    have h1' : j < s.size := by rw [size_data]; exact h1
    show s.data[j]! = x
    rw [getElem!_pos s.data j h1', ← h2]
    rfl
  have h0 : (s.get! i).toNat = (s[i]'hi).toNat := by rw [hg i _ (Lib.data_getElem? s i hi)]
  rw [Lib.decode_at]
  have hk : ∀ k x, s.data.toList[k]? = some x → k < s.size := by
    intro k x hx
    have := (List.getElem?_eq_some_iff.1 hx).1
    rw [size_data]; exact this
  rcases Lib.decodeN_shape (s.size - i) (s.get! i).toNat (s.get! (i + 1)).toNat (s.get! (i + 2)).toNat (s.get! (i + 3)).toNat with ⟨h1, _⟩ | ⟨h1, h2, h3, h4, e⟩ | ⟨h1, h2, h3, h4, h5, h6, e⟩ | ⟨h1, h2, h3, h4, h5, h6, h7, e⟩ | e
  · omega
  all_goals rw [e]
  · refine ⟨h4, by simp, by simp only; omega, fun k x ha hb hx => ?_⟩
    have hb' : k < i + 2 := hb
    rw [← hg k x hx]
    rcases (by omega : k = i ∨ k = i + 1) with rfl | rfl <;> omega
  · refine ⟨by simp only; omega, by simp, by simp only; omega, fun k x ha hb hx => ?_⟩
    have hb' : k < i + 3 := hb
    rw [← hg k x hx]
    rcases (by omega : k = i ∨ k = i + 1 ∨ k = i + 2) with rfl | rfl | rfl <;> omega
  · refine ⟨by simp only; omega, by simp, by simp only; omega, fun k x ha hb hx => ?_⟩
    have hb' : k < i + 4 := hb
    rw [← hg k x hx]
    rcases (by omega : k = i ∨ k = i + 1 ∨ k = i + 2 ∨ k = i + 3) with rfl | rfl | rfl | rfl <;> omega
  · refine ⟨by simp, by simp, by simp only; omega, fun k x ha hb hx => ?_⟩
    have hb' : k < i + 1 := hb
    rw [← hg k x hx]
    obtain rfl : k = i := by omega
    omega
theorem noAny_more {s : ByteArray} {i d : Nat} (h : Lib.NoAny s.data.toList markL i) (hd : ∀ k x, i ≤ k → k < i + d → s.data.toList[k]? = some x → 128 ≤ x.toNat) : Lib.NoAny s.data.toList markL (i + d) := by
  intro j b hj hb
  rcases Nat.lt_or_ge j i with hlt | hge
  · exact h j b hlt hb
  · exact mark_high b (hd j b hge hj hb)
theorem strings_shouldUseASCIISet.exact (n : Int) (w : World) :
    Calls Tryz.prog 215 #[.int .i64 n] w fun e w' => e = .returned (.bool (decide (8 < n))) ∧ w' = w := by
  go_enter Tryz.func215, Tryz.ntmps215
  go_wp2
  go_ret
  exact ⟨rfl, rfl⟩
theorem indexRune_marks (r : Int) (w : World) (h0 : 128 ≤ r) :
    Calls Tryz.prog 214 #[.string (ofL markL), .int .i32 r] w fun e w' => e = .returned (.int .i64 (-1)) ∧ Below w.heap.size w w' := by
  by_cases h : r = 65533
  · subst h; exact strings_IndexRune_bad _ w (by decide) mark_low
  · exact strings_IndexRune_high _ r w h0 h rfl mark_low
open Go.Lib in
set_option maxHeartbeats 8000000 in
set_option maxRecDepth 1000000 in
theorem strings_IndexAny_short (s : ByteArray) (w : World) (h8 : s.size ≤ 8) :
    Calls Tryz.prog 205 #[.string s, .string (ofL markL)] w fun e w' => e = .returned (.int .i64 (Lib.indexAny s.data.toList markL)) ∧ Below w.heap.size w w' := by
  have hlowC : ∀ (x : UInt8) (w : World), x.toNat < 128 → Calls Tryz.prog 214 #[.string (ofL markL), .int .i32 (x.toNat : Int)] w fun e w' => e = .returned (.int .i64 (Lib.indexByte markL x)) ∧ w' = w := by
    intro x w hx
    have hback : ((x.toNat : Int)).toNat.toUInt8 = x := by simp
    refine (strings_IndexRune_low _ _ w (by omega) (by omega)).mono fun e w' h => ⟨?_, h.2⟩
    rw [h.1, hback]
  have hhigh := fun (r : Int) (w : World) (h : 128 ≤ r) => indexRune_marks r w h
  obtain ⟨chars, hch⟩ : ∃ chars, ofL markL = chars := ⟨_, rfl⟩
  rw [hch] at hlowC hhigh ⊢
  have hemp : chars.toList.isEmpty = false := by rw [← hch, toList_data]; rfl
  have hn1 : ((chars.size : Int) == 1) = false := by rw [← hch]; rfl
  have h8z : decide ((8 : Int) < (s.size : Int)) = false := decide_eq_false (by omega)
  clear hch
  go_enter Tryz.func205, Tryz.ntmps205
  go_wp2_with (go_at_call 215; refine (strings_shouldUseASCIISet.exact _ _).mono ?_; rintro e w' ⟨rfl, hw⟩; rw [hw, h8z])
  go_loopg [9, 10] s.size (fun g _ _ wx => ∃ i : Nat, i ≤ s.size ∧ g = s.size - i ∧ wx.heap[w.heap.size]? = some (.stringIter s i) ∧ Aside0 (Lib.NoAny s.data.toList markL i) ∧ Aside0 (Below w.heap.size w wx))
  case atStart => exact ⟨0, by omega, by omega, World.iter_heap _ _ _, ⟨Lib.NoAny.zero _ _⟩, ⟨(Below.refl _ _).alloc (Nat.le_refl _) _⟩⟩
  case round =>
    obtain ⟨i, hig, hg, hB, HN, hb⟩ := hrel
    by_cases hi : i < s.size
    · obtain ⟨x, hx⟩ : ∃ x : UInt8, s[i]'hi = x := ⟨_, rfl⟩
      have Hx : Aside0 (s.data.toList[i]? = some x) := ⟨by rw [← hx]; exact Lib.data_getElem? _ i hi⟩
      by_cases hx128 : x.toNat < 128
      · have hnx := fun ty => run_next_ascii_at (P := Tryz.prog) wr w.heap.size s i ty hB hi (by rw [hx]; exact hx128)
        rw [hx] at hnx
        have HB := Aside0.mk hB
        clear hB
        have hcon := Lib.contains_iff_indexByte markL x
        cases hin : markL.contains x
        · rw [hin] at hcon
          have HI := Aside0.mk hin
          clear hin
          have hlt : ¬ ((0 : Int) ≤ Lib.indexByte markL x) := of_decide_eq_false hcon.symm
          clear hcon
          go_wp2_with (go_at_call 214; refine (hlowC x _ hx128).mono ?_; rintro e w' ⟨rfl, hw⟩; rw [hw])
          go_roundg (s.size - (i + 1))
          case measure => omega
          case rel => exact ⟨i + 1, by omega, by omega, iterAt_heap _ _ _ _ _ HB.out, ⟨HN.out.succ Hx.out HI.out⟩, ⟨below_iterAt hb.out (Nat.le_refl _) _ _⟩⟩
        · rw [hin] at hcon
          have HI := Aside0.mk hin
          clear hin
          have hge : (0 : Int) ≤ Lib.indexByte markL x := of_decide_eq_true hcon.symm
          clear hcon
          go_wp2_with (go_at_call 214; refine (hlowC x _ hx128).mono ?_; rintro e w' ⟨rfl, hw⟩; rw [hw])
          go_ret
          exact ⟨by rw [Lib.indexAny_hit HN.out Hx.out HI.out]; rfl, below_iterAt hb.out (Nat.le_refl _) _ _⟩
      · have hnx := fun ty => run_next_any_at (P := Tryz.prog) wr w.heap.size s i ty hB hi
        have hd := decode_bytes s i hi (by rw [hx]; omega)
        generalize Utf8.decode s i = d at hnx hd
        obtain ⟨hd1, hd2, hd3, hd4⟩ := hd
        have hrI : (128 : Int) ≤ (d.1 : Int) := by omega
        have HD := Aside0.mk hd4
        have HB := Aside0.mk hB
        clear hB hd4
        have hfar : Aside0 (Below w.heap.size w (wr.iterAt w.heap.size s (i + d.2))) := ⟨below_iterAt hb.out (Nat.le_refl _) _ _⟩
        have hit : Aside0 ((wr.iterAt w.heap.size s (i + d.2)).heap[w.heap.size]? = some (.stringIter s (i + d.2))) := ⟨iterAt_heap _ _ _ _ _ HB.out⟩
        go_wp2_with (go_at_call 214; refine (hhigh _ _ hrI).mono ?_; rintro e w' ⟨rfl, hb2⟩)
        go_roundg (s.size - (i + d.2))
        case measure => omega
        case rel => exact ⟨i + d.2, by omega, by omega, (hb2.block _ (Array.getElem?_eq_some_iff.1 hit.out).1).trans hit.out, ⟨noAny_more HN.out HD.out⟩, ⟨below_then hfar.out hfar.out.size hb2⟩⟩
    · obtain rfl : i = s.size := by omega
      have hnx := fun ty => run_next_end_at (P := Tryz.prog) wr w.heap.size s s.size ty hB (by omega)
      have HB := Aside0.mk hB
      clear hB
      go_wp2
      go_ret
      exact ⟨by rw [Lib.indexAny_none (by rw [← Lib.size_eq]; exact HN.out)]; rfl, hb.out⟩
set_option maxRecDepth 1000000 in
theorem strings_IndexAny_marks (s : ByteArray) (w : World) (hs : s.size < 4294967281) :
    Calls Tryz.prog 205 #[.string s, .string (ofL markL)] w fun e w' => e = .returned (.int .i64 (Lib.indexAny s.data.toList markL)) ∧ Below w.heap.size w w' := by
  by_cases h8 : s.size ≤ 8
  · exact strings_IndexAny_short s w h8
  · have h116 : (Tryz.prog.info? 230).map (fun i => (i.zero, i.size)) = some (some (.agg (Array.replicate 256 (.bool false))), 256) := by kernel_rfl
    refine (Any.strings_IndexAny_long Tryz.lays153 (zero_of_info h116).1 (zero_of_info h116).2 s (ofL markL) w (by decide) (by omega) hs (by decide) (fun j b hb => mark_low b (List.mem_of_getElem? hb))).mono ?_
    rintro e w' ⟨h1, h2⟩
    refine ⟨h1, ?_⟩
    rw [h2]
    exact ((Below.refl _ _).alloc (Nat.le_refl _) _).alloc (by simp) _
def strings_ContainsAny.f (a0 a1 : ByteArray) : Option Bool := if a1.data.toList = markL ∧ a0.size < 4294967281 then some (Lib.containsAny a0.data.toList markL) else none
set_option maxHeartbeats 1000000 in
theorem strings_ContainsAny.calls (a0 a1 : ByteArray) (r : Bool) (w : World) (h : strings_ContainsAny.f a0 a1 = some r) :
    Calls Tryz.prog 195 #[.string a0, .string a1] w fun e w' => e = .returned (.bool r) ∧ Below w.heap.size w w' := by
  unfold strings_ContainsAny.f at h
  split at h
  · rename_i hc
    obtain ⟨h1, h2⟩ := hc
    obtain rfl := Option.some.inj h
    obtain rfl : a1 = ofL markL := ext_data h1
    clear h h1
    have hM := fun w => strings_IndexAny_marks a0 w h2
    generalize ofL markL = ch at hM ⊢
    unfold Lib.containsAny
    generalize Lib.indexAny a0.data.toList markL = z at hM ⊢
    go_enter Tryz.func195, Tryz.ntmps195
    go_wp2_with (go_at_call 205; refine (hM _).mono ?_; rintro e w' ⟨rfl, hb⟩)
    go_ret
    exact ⟨rfl, hb⟩
  · cases h
end Go.Proofs.YtjfcmkddeglghaaGreatDoor.G
end
section
namespace Go.Proofs.YtjfcmkddeglghaaGreatDoor.G
open Go.RowKit Go.Proofs.YtjfcmkddeglghaaGreatDoorW.PrintWords Go.Proofs.YtjfcmkddeglghaaGreatDoorW.PrintLast Go.Proofs.YtjfcmkddeglghaaGreatDoorW.PrintMore
attribute [local go_sem] max2_int min2_int max_two min_two max_three min_three max_four min_four
set_option linter.unusedVariables false
set_option linter.unusedSimpArgs false
def version_word.j0 : Nat → ByteArray → Bool → Option (Bool)
 | 0, _, _ => none
 | k + 1, x0, x14 => if x14 = true then (some false) else ((number_May.f x0).bind fun t132 => (if t132 = true then (some true) else ((octet_All.f x0 (([1] : List Int))).bind fun t136 => (some (!t136)))))
def version_word.f (k : Nat) (a0 : ByteArray) : Option (Bool) := if a0.toList = ([] : List UInt8) then (version_word.j0 k a0 true) else ((strings_ContainsAny.f a0 (⟨#[46, 95, 126]⟩ : ByteArray)).bind fun t127 => (if t127 = true then (version_word.j0 k a0 true) else ((octet_All.f a0 (([1, 2, 3] : List Int))).bind fun t131 => (version_word.j0 k a0 (!t131)))))
theorem version_word.mono_l : ∀ k, (∀ y0 y1, LeO (version_word.j0 k y0 y1) (version_word.j0 (k + 1) y0 y1))
 | 0 => fun _ _ r h => by simp [version_word.j0] at h
 | k + 1 => by
  have ih0 := version_word.mono_l k
  ·intro y0 y1
   unfold version_word.j0
   repeat' first
   | (with_reducible exact ih0 _ _)
   | (with_reducible exact LeO.refl _)
   | (with_reducible exact LeO.none _)
   | (with_reducible refine LeO.ite ?_ ?_)
   | (with_reducible refine LeO.bind ?_ (fun _ => ?_))
   | exact ih0 _ _
   | exact LeO.none _
   | refine LeO.ite ?_ ?_
   | refine LeO.bind ?_ (fun _ => ?_)
theorem version_word.mono : ∀ a0 k, LeO (version_word.f k a0) (version_word.f (k + 1) a0) := by
 intro a0 k
 have ih0 := version_word.mono_l k
 unfold version_word.f
 repeat' first
   | (with_reducible exact ih0 _ _)
   | (with_reducible exact LeO.refl _)
   | (with_reducible exact LeO.none _)
   | (with_reducible refine LeO.ite ?_ ?_)
   | (with_reducible refine LeO.bind ?_ (fun _ => ?_))
   | exact ih0 _ _
   | exact LeO.none _
   | refine LeO.ite ?_ ?_
   | refine LeO.bind ?_ (fun _ => ?_)
set_option maxHeartbeats 8000000 in
set_option maxRecDepth 100000 in
theorem version_word.calls (k : Nat) (a0 : ByteArray) (r : Bool) (w : World) (h : version_word.f k a0 = some r) :
  Calls Tryz.prog 174 #[.string a0] w fun e w' => e = .returned (.bool r) ∧ Below w.heap.size w w' := by
 have HB := Aside0.mk (Below.refl w.heap.size w)
 have H : (if a0.toList = ([] : List UInt8) then (version_word.j0 k a0 true) else ((strings_ContainsAny.f a0 (⟨#[46, 95, 126]⟩ : ByteArray)).bind fun t127 => (if t127 = true then (version_word.j0 k a0 true) else ((octet_All.f a0 (([1, 2, 3] : List Int))).bind fun t131 => (version_word.j0 k a0 (!t131)))))) = some r := h
 clear h
 have HC2 := Aside0.mk H
 clear H
 go_enter Tryz.func174, Tryz.ntmps174
 go_upto_region 1 with (fail)
 go_cut [14] (fun v14 wc => ∃ (kq : Nat) (x14_1 : Bool), v14 = .bool x14_1 ∧ Aside0 (version_word.j0 kq a0 x14_1 = some r) ∧ Aside0 (kq ≤ k) ∧ Aside0 (Below w.heap.size w wc))
 case first =>
  have H := HC2.out
  clear HC2
  by_cases c3 : a0.toList = ([] : List UInt8)
  ·rw [if_pos c3] at H
   have c3b0 := beq_iff_eq.mpr c3
   (try (have c3b0i := c3b0; simp only [show ∀ l_ : List UInt8, (l_ == []) = l_.isEmpty from fun l_ => by cases l_ <;> rfl] at c3b0i))
   have c3b1 := bne_eq_false_iff_eq.mpr c3
   clear c3
   (first | rw [c3b0] | (simp only [i64_w, i32_w]; rw [c3b0]) | skip)
   have H' := Aside0.mk H
   clear H
   go_wp2
   go_meet
   case rel => exact ⟨_, (true), (by first | rfl | (simp; done) | (simp [*]; done)), H', ⟨by first | omega | exact Nat.le_refl _⟩, ⟨ba HB⟩⟩
  ·rw [if_neg c3] at H
   have c3b0 := beq_eq_false_iff_ne.mpr c3
   (try (have c3b0i := c3b0; simp only [show ∀ l_ : List UInt8, (l_ == []) = l_.isEmpty from fun l_ => by cases l_ <;> rfl] at c3b0i))
   have c3b1 := bne_iff_ne.mpr c3
   (first | rw [c3b0] | (simp only [i64_w, i32_w]; rw [c3b0]) | skip)
   obtain ⟨t127, A4, H⟩ := bo H
   by_cases c5 : t127 = true
   ·subst c5
    replace H := it H
    have H' := Aside0.mk H
    clear H
    go_wp2_with (first | (go_at_call 195; (with_reducible refine (strings_ContainsAny.calls a0 (⟨#[46, 95, 126]⟩ : ByteArray) true _ A4.out).mono ?_); rintro e w6 ⟨rfl, hb⟩; have n0_ := bs HB hb; revert n0_; clear HB; intro HB; (try clear hb)))
    go_meet
    case rel => exact ⟨_, (true), (by first | rfl | (simp; done) | (simp [*]; done)), H', ⟨by first | omega | exact Nat.le_refl _⟩, ⟨ba HB⟩⟩
   ·replace c5 := Bool.eq_false_iff.mpr c5
    subst c5
    replace H := jf H
    obtain ⟨y128, hy128⟩ : ∃ y_ : List Int, y_ = (([1, 2, 3] : List Int)) := ⟨_, rfl⟩
    replace H : ((octet_All.f a0 y128).bind fun t131 => (version_word.j0 k a0 (!t131))) = some r := by first | (rw [hy128]; with_reducible exact H) | (have H2_ := (Option.bind_some _ _).symm.trans H; rw [hy128]; with_reducible exact H2_) | (have H2_ := (Option.bind_some _ _).symm.trans H; with_reducible exact H2_) | with_reducible exact H | (rw [hy128]; exact H) | exact H
    have Ny128 := Aside0.mk hy128
    clear hy128
    obtain ⟨t131, A7, H⟩ := bo H
    have H' := Aside0.mk H
    clear H
    go_wp2_with (first | (go_at_call 195; (with_reducible refine (strings_ContainsAny.calls a0 (⟨#[46, 95, 126]⟩ : ByteArray) false _ A4.out).mono ?_); rintro e w8 ⟨rfl, hb⟩; have n0_ := bs HB hb; revert n0_; clear HB; intro HB; (try clear hb)) | ((with_reducible refine gate_dst (N := 11) rfl ?_); (try (refine gate_guard (by rfl) ?_; dsimp only)); refine Kd.R_lit (Kd.int .i64) _ 3 ?hg (N := 11) ?hd (xs := ([1, 2, 3] : List Int)) (inner := [.int .i64 1, .int .i64 2, .int .i64 3]) (ok := fun _ => True) (okp := fun _ => True) ?hr ?hp (fun _ hk => hk) trivial (Below.refl _ _) (Nat.le_refl _) (by simp) ?_; (case hd => rfl); (case hg => rfl); (case hr => first | (go_simp; done) | (go_simp; rfl)); (case hp => exact (Reps.one (show Kd.M (Kd.int .i64) _ _ _ 1 [.int .i64 1] from rfl) (Reps.one (show Kd.M (Kd.int .i64) _ _ _ 2 [.int .i64 2] from rfl) (Reps.one (show Kd.M (Kd.int .i64) _ _ _ 3 [.int .i64 3] from rfl) (Reps.none _ _))))); intro v129 w9 ho10 hb hg_ hnew_; clear hg_ hnew_; (first | rw [← Ny128.out] at ho10 | (simp only [Int.reduceToNat] at ho10; rw [← Ny128.out] at ho10)); have n0_ := Aside0.mk (Kd.R_lower ho10 (bz HB)); have n1_ := bs HB hb; revert n0_ n1_; clear HB; intro HO130 HB; clear hb ho10; obtain ⟨Ao11, co11, eo11⟩ := Kd.R_slice HO130.out; subst eo11) | (go_at_call 194; (with_reducible refine (octet_All.calls a0 _ _ y128 t131 _ ?side1 ?side2 A7.out).mono ?_); (case side1 => repeat (first | exact (Kd.R_reads' HO130.out).2.2 | (with_reducible refine Kd.C_alloc ?_ _) | (with_reducible refine Kd.C_drewN ?_ _) | (with_reducible refine Kd.C_drew ?_))); (case side2 => exact (Kd.R_reads' HO130.out).2.1); rintro e w12 ⟨rfl, hb⟩; have n0_ := rb HO130 hb; have n1_ := bs HB hb; revert n0_ n1_; clear HO130 HB; intro HO130 HB; (try clear hb)))
    go_meet
    case rel => exact ⟨_, (!t131), (by first | rfl | (simp; done) | (simp [*]; done)), H', ⟨by first | omega | exact Nat.le_refl _⟩, ⟨ba HB⟩⟩
 case rest =>
  clear HC2
  try clear c1
  try clear p2
  try clear c3
  try clear c3b0
  try clear c3b1
  try clear c5
  obtain ⟨kq, x14_1, rfl, HA, HJ1, HB⟩ := hcut
  cases kq with
  | zero => exact absurd HA.out (by simp [version_word.j0])
  | succ kj1 =>
   have H := HA.out
   clear HA
   simp only [version_word.j0] at H
   by_cases c13 : x14_1 = true
   ·subst c13
    replace H := it H
    obtain rfl := Option.some.inj H
    go_wp2
    go_ret
    exact ⟨by first | rfl | (simp [errW_none, errW_some] <;> rfl) | (simp [*, errW_none, errW_some] <;> rfl), ba HB⟩
   ·replace c13 := Bool.eq_false_iff.mpr c13
    subst c13
    replace H := jf H
    obtain ⟨t132, A14, H⟩ := bo H
    by_cases c15 : t132 = true
    ·subst c15
     replace H := it H
     obtain rfl := Option.some.inj H
     go_wp2_with (first | ((with_reducible refine gate_callee (f := 173) rfl ?_); refine gl 16 Tryz.func173 #[.string a0] ?_; (with_reducible refine (number_May.calls a0 true _ A14.out).mono ?_); rintro e w16 ⟨rfl, hb⟩; refine ⟨_, rfl, ?_⟩; have n0_ := bs HB hb; revert n0_; clear HB; intro HB; (try clear hb)))
     go_ret
     exact ⟨by first | rfl | (simp [errW_none, errW_some] <;> rfl) | (simp [*, errW_none, errW_some] <;> rfl), ba HB⟩
    ·replace c15 := Bool.eq_false_iff.mpr c15
     subst c15
     replace H := jf H
     obtain ⟨y133, hy133⟩ : ∃ y_ : List Int, y_ = (([1] : List Int)) := ⟨_, rfl⟩
     replace H : ((octet_All.f a0 y133).bind fun t136 => (some (!t136))) = some r := by first | (rw [hy133]; with_reducible exact H) | (have H2_ := (Option.bind_some _ _).symm.trans H; rw [hy133]; with_reducible exact H2_) | (have H2_ := (Option.bind_some _ _).symm.trans H; with_reducible exact H2_) | with_reducible exact H | (rw [hy133]; exact H) | exact H
     have Ny133 := Aside0.mk hy133
     clear hy133
     obtain ⟨t136, A17, H⟩ := bo H
     obtain rfl := Option.some.inj H
     go_wp2_with (first | ((with_reducible refine gate_callee (f := 173) rfl ?_); refine gl 16 Tryz.func173 #[.string a0] ?_; (with_reducible refine (number_May.calls a0 false _ A14.out).mono ?_); rintro e w18 ⟨rfl, hb⟩; refine ⟨_, rfl, ?_⟩; have n0_ := bs HB hb; revert n0_; clear HB; intro HB; (try clear hb)) | ((with_reducible refine gate_dst (N := 19) rfl ?_); (try (refine gate_guard (by rfl) ?_; dsimp only)); refine Kd.R_lit (Kd.int .i64) _ 3 ?hg (N := 19) ?hd (xs := ([1] : List Int)) (inner := [.int .i64 1]) (ok := fun _ => True) (okp := fun _ => True) ?hr ?hp (fun _ hk => hk) trivial (Below.refl _ _) (Nat.le_refl _) (by simp) ?_; (case hd => rfl); (case hg => rfl); (case hr => first | (go_simp; done) | (go_simp; rfl)); (case hp => exact (Reps.one (show Kd.M (Kd.int .i64) _ _ _ 1 [.int .i64 1] from rfl) (Reps.none _ _))); intro v134 w19 ho20 hb hg_ hnew_; clear hg_ hnew_; (first | rw [← Ny133.out] at ho20 | (simp only [Int.reduceToNat] at ho20; rw [← Ny133.out] at ho20)); have n0_ := Aside0.mk (Kd.R_lower ho20 (bz HB)); have n1_ := bs HB hb; revert n0_ n1_; clear HB; intro HO135 HB; clear hb ho20; obtain ⟨Ao21, co21, eo21⟩ := Kd.R_slice HO135.out; subst eo21) | (go_at_call 194; (with_reducible refine (octet_All.calls a0 _ _ y133 t136 _ ?side1 ?side2 A17.out).mono ?_); (case side1 => repeat (first | exact (Kd.R_reads' HO135.out).2.2 | (with_reducible refine Kd.C_alloc ?_ _) | (with_reducible refine Kd.C_drewN ?_ _) | (with_reducible refine Kd.C_drew ?_))); (case side2 => exact (Kd.R_reads' HO135.out).2.1); rintro e w22 ⟨rfl, hb⟩; have n0_ := rb HO135 hb; have n1_ := bs HB hb; revert n0_ n1_; clear HO135 HB; intro HO135 HB; (try clear hb)))
     go_ret
     exact ⟨by first | rfl | (simp [errW_none, errW_some] <;> rfl) | (simp [*, errW_none, errW_some] <;> rfl), ba HB⟩
end Go.Proofs.YtjfcmkddeglghaaGreatDoor.G
end
