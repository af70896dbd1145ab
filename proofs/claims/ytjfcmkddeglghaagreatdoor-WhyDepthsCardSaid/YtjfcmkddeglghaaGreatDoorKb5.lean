/- For every list of needs WhyDepths returns true, as the card says: how far a node is away is how long its chain is; what the root needs is 1 away; no need leads more than one further. Condition: when the call begins, utf8.acceptRanges and utf8.first hold what Go's own text lays. (part 5 of its proof) -/
import Derived.Maps.RangeRun
import Derived.Test.YtjfcmkddeglghaaGreatDoorKb1
import Derived.Test.YtjfcmkddeglghaaGreatDoorKb2
import Derived.Test.YtjfcmkddeglghaaGreatDoorKb3
import Derived.Test.YtjfcmkddeglghaaGreatDoorKb4
section
namespace Go.Proofs.YtjfcmkddeglghaaGreatDoor.G
open Go.RowKit Gw Go.Proofs.YtjfcmkddeglghaaGreatDoorW.PrintWords Go.Proofs.YtjfcmkddeglghaaGreatDoorW.PrintLast Go.Proofs.YtjfcmkddeglghaaGreatDoorW.PrintMore
set_option linter.unusedVariables false
set_option linter.unusedSimpArgs false
theorem refCmpS_loop (a b : Str) (ha : Sz a) (hb : Sz b) : ∀ n i, i + n = a.length → i ≤ b.length → Ev (fun k => r01_Cmp.l0 k (ofL a) (ofL b) (i : Int)) (cmpS (a.drop i) (b.drop i)) := by
  intro n
  have hsa : a.length < 4294967281 := ha
  have hsb : b.length < 4294967281 := hb
  induction n with
  | zero =>
    intro i hi hib
    refine Ev.succ ?_
    simp only [r01_Cmp.l0]
    refine Ev.neg (by rw [size_ofL]; omega) (Ev.succ ?_)
    simp only [r01_Cmp.j1]
    rw [size_ofL, size_ofL, List.drop_of_length_le (by omega : a.length ≤ i)]
    refine Ev.neg (by simp) ?_
    by_cases h : a.length < b.length
    · refine Ev.pos (by omega) (Ev.some_eq ?_)
      rw [drop_at b i (by omega)]
      rfl
    · refine Ev.neg (by omega) (Ev.neg (by omega) (Ev.some_eq ?_))
      rw [List.drop_of_length_le (by omega)]
      rfl
  | succ n ih =>
    intro i hi hib
    have hia : i < a.length := by omega
    refine Ev.succ ?_
    simp only [r01_Cmp.l0]
    refine Ev.pos (by rw [size_ofL]; omega) (Ev.succ ?_)
    simp only [r01_Cmp.j1]
    rw [size_ofL, size_ofL]
    by_cases h : i < b.length
    · refine Ev.pos (by simpa using h) (Ev.pos (by omega) (Ev.pos (by omega) (Ev.pos (by omega) ?_)))
      rw [bt_at_ofL a i hia, bt_at_ofL b i h, drop_at a i hia, drop_at b i h]
      show Ev _ (or3 (cmpB a[i] b[i]) (cmpS (a.drop (i + 1)) (b.drop (i + 1))))
      unfold cmpB cmpN or3
      by_cases h1 : a[i].toNat < b[i].toNat
      · exact Ev.pos (by omega) (Ev.some_eq (by simp [h1]))
      · refine Ev.neg (by omega) ?_
        by_cases h2 : b[i].toNat < a[i].toNat
        · exact Ev.pos (by omega) (Ev.some_eq (by simp [h1, h2]))
        · refine Ev.neg (by omega) ?_
          rw [w64n i (by omega)]
          exact Ev.val (ih (i + 1) (by omega) (by omega)) (by simp [h1, h2])
    · refine Ev.neg (by simpa using h) ?_
      refine Ev.neg (by omega) (Ev.pos (by omega) (Ev.some_eq ?_))
      rw [List.drop_of_length_le (by omega : b.length ≤ i), drop_at a i hia]
      rfl
theorem refCmpS_ev (a b : Str) (ha : Sz a) (hb : Sz b) : Ev (fun k => r01_Cmp.f k (ofL a) (ofL b)) (cmpS a b) := by
  unfold r01_Cmp.f
  exact Ev.val (refCmpS_loop a b ha hb _ 0 (Nat.zero_add _) (Nat.zero_le _)) rfl
theorem refAt_in (s : Str) (i : Nat) (h : Sz s) (hi : i < s.length) : r02_at.f (ofL s) (i : Int) = some (digR (s[s.length - 1 - i]'(by omega))) := by
  have hs : s.length < 4294967281 := h
  unfold r02_at.f
  have e1 : wrap64 ((s.length : Int) - 1) = (s.length : Int) - 1 := w64 (by omega) (by omega)
  rw [size_ofL, if_neg (by omega), e1, w64 (by omega) (by omega), if_pos (by omega), if_pos (by omega)]
  rw [show (s.length : Int) - 1 - (i : Int) = ((s.length - 1 - i : Nat) : Int) from by omega, bt_at_ofL s _ (by omega), refDigit_eq]
  rfl
theorem refAt_out (s : Str) (i : Nat) (hi : s.length ≤ i) : r02_at.f (ofL s) (i : Int) = some 0 := by
  unfold r02_at.f
  rw [size_ofL, if_pos (by omega)]
theorem digR_lt (x y : UInt8) (hx : isDigit x = true) (hy : isDigit y = true) : (digR x < digR y) ↔ x.toNat < y.toNat := by
  unfold digR
  rw [if_pos hx, if_pos hy]
  omega
theorem refNumCmp_eq (a b : Str) (ha : Sz a) (hl : a.length = b.length) (da : a.all isDigit = true) (db : b.all isDigit = true) : ∀ m, m ≤ a.length →
    Ev (fun k => r02_Cmp.l0 k (ofL a) (ofL b) ((m : Int) - 1)) (cmpS (a.drop (a.length - m)) (b.drop (a.length - m))) := by
  have hb : Sz b := by unfold Sz at *; omega
  have hsa : a.length < 4294967281 := ha
  intro m
  induction m with
  | zero =>
    intro _
    refine Ev.succ ?_
    simp only [r02_Cmp.l0]
    refine Ev.neg (by omega) (Ev.some_eq ?_)
    rw [List.drop_of_length_le (by omega), List.drop_of_length_le (by omega)]
    rfl
  | succ m ih =>
    intro hm
    refine Ev.succ ?_
    simp only [r02_Cmp.l0]
    rw [show ((m + 1 : Nat) : Int) - 1 = (m : Int) from by omega]
    refine Ev.pos (by omega) ?_
    have hi : a.length - (m + 1) < a.length := by omega
    have hib : a.length - (m + 1) < b.length := by omega
    have e1 := refAt_in a m ha (by omega)
    have e2 := refAt_in b m hb (by omega)
    have g1 : a[a.length - 1 - m]'(by omega) = a[a.length - (m + 1)] := by congr 1; omega
    have g2 : b[b.length - 1 - m]'(by omega) = b[a.length - (m + 1)] := by congr 1; omega
    rw [g1] at e1
    rw [g2] at e2
    rw [drop_at a _ hi, drop_at b _ hib, show a.length - (m + 1) + 1 = a.length - m from by omega]
    have d1 : isDigit a[a.length - (m + 1)] = true := List.all_eq_true.1 da _ (List.getElem_mem _)
    have d2 : isDigit b[a.length - (m + 1)] = true := List.all_eq_true.1 db _ (List.getElem_mem _)
    generalize a[a.length - (m + 1)] = x at e1 d1
    generalize b[a.length - (m + 1)] = y at e2 d2
    have l1 := digR_lt x y d1 d2
    have l2 := digR_lt y x d2 d1
    show Ev _ (or3 (cmpB x y) (cmpS (a.drop (a.length - m)) (b.drop (a.length - m))))
    unfold cmpB cmpN or3
    refine Ev.bindc e1 (Ev.bindc e2 ?_)
    by_cases h1 : x.toNat < y.toNat
    · exact Ev.pos (l1.2 h1) (Ev.some_eq (by simp [h1]))
    · refine Ev.neg (fun h => h1 (l1.1 h)) (Ev.bindc e1 (Ev.bindc e2 ?_))
      by_cases h2 : y.toNat < x.toNat
      · exact Ev.pos (l2.2 h2) (Ev.some_eq (by simp [h1, h2]))
      · refine Ev.neg (fun h => h2 (l2.1 h)) ?_
        rw [w64 (by omega) (by omega)]
        exact Ev.val (ih (by omega)) (by simp [h1, h2])
theorem numMay_head {s : Str} (h : numMay s = true) : 0 < s.length ∧ s.all isDigit = true ∧ (1 < s.length → ∃ c t, s = c :: t ∧ c ≠ 48) := by
  unfold numMay at h
  simp only [Bool.and_eq_true, Bool.or_eq_true, beq_iff_eq, decide_eq_true_eq] at h
  obtain ⟨h1, h2⟩ := h
  refine ⟨?_, h1, ?_⟩
  · rcases h2 with h2 | h2
    · omega
    · omega
  · intro h3
    rcases h2 with h2 | ⟨_, h2⟩
    · omega
    · cases s with
      | nil => simp at h3
      | cons c t => exact ⟨c, t, rfl, by simpa using h2⟩
theorem digR_pos (c : UInt8) (hc : c ≠ 48) (hd : isDigit c = true) : 0 < digR c := by
  have := u8_all (fun c => c == 48 || !isDigit c || decide (0 < digR c)) (by decide +kernel) c
  simpa [hc, hd] using this
theorem refNumCmp_ev (a b : Str) (ha : Sz a) (hb : Sz b) (ma : numMay a = true) (mb : numMay b = true) : Ev (fun k => r02_Cmp.f k (ofL a) (ofL b)) (numCmp a b) := by
  unfold r02_Cmp.f numCmp
  have hsa : a.length < 4294967281 := ha
  have hsb : b.length < 4294967281 := hb
  obtain ⟨pa, da, na⟩ := numMay_head ma
  obtain ⟨pb, db, nb⟩ := numMay_head mb
  rw [size_ofL, size_ofL]
  unfold mx cmpN or3
  by_cases h1 : a.length < b.length
  · rw [if_pos (by omega), w64 (by omega) (by omega), if_pos h1, if_neg (by omega)]
    refine Ev.succ ?_
    simp only [r02_Cmp.l0]
    refine Ev.pos (by omega) ?_
    obtain ⟨c, t, e, hc⟩ := nb (by omega)
    have e2 := refAt_in b (b.length - 1) hb (by omega)
    have g : b[b.length - 1 - (b.length - 1)]'(by omega) = c := by
      have : b.length - 1 - (b.length - 1) = 0 := by omega
      simp only [this]
      subst e
      rfl
    rw [g] at e2
    rw [show (b.length : Int) - 1 = ((b.length - 1 : Nat) : Int) from by omega]
    refine Ev.bindc (refAt_out a (b.length - 1) (by omega)) (Ev.bindc e2 (Ev.pos ?_ (Ev.some_ _)))
    exact digR_pos c hc (List.all_eq_true.1 db c (by rw [e]; simp))
  · by_cases h2 : b.length < a.length
    · rw [if_neg (by omega), w64 (by omega) (by omega), if_neg h1, if_pos h2, if_neg (by omega)]
      refine Ev.succ ?_
      simp only [r02_Cmp.l0]
      refine Ev.pos (by omega) ?_
      obtain ⟨c, t, e, hc⟩ := na (by omega)
      have e2 := refAt_in a (a.length - 1) ha (by omega)
      have g : a[a.length - 1 - (a.length - 1)]'(by omega) = c := by
        have : a.length - 1 - (a.length - 1) = 0 := by omega
        simp only [this]
        subst e
        rfl
      rw [g] at e2
      rw [show (a.length : Int) - 1 = ((a.length - 1 : Nat) : Int) from by omega]
      have e1 := refAt_out b (a.length - 1) (by omega)
      have hp := digR_pos c hc (List.all_eq_true.1 da c (by rw [e]; simp))
      exact Ev.bindc e2 (Ev.bindc e1 (Ev.neg (by omega) (Ev.bindc e2 (Ev.bindc e1 (Ev.pos (by omega) (Ev.some_ _))))))
    · rw [if_neg (by omega), w64 (by omega) (by omega), if_neg h1, if_neg h2, if_pos rfl]
      have h3 := refNumCmp_eq a b ha (by omega) da db a.length (Nat.le_refl _)
      rw [Nat.sub_self] at h3
      exact h3
theorem refWords_ev (a b : Str) (ha : Sz a) (hb : Sz b) : Ev (fun k => r03_words.f k (ofL a) (ofL b)) (wordCmp a b) := by
  unfold r03_words.f wordCmp
  refine Ev.bind (refNum_ev a ha) (Ev.bind (refNum_ev b hb) ?_)
  cases ma : numMay a
  · refine Ev.neg (by simp) (Ev.succ ?_)
    simp only [r03_words.j0]
    refine Ev.neg (by simp) (Ev.neg (by simp) ?_)
    cases mb : numMay b
    · exact Ev.neg (by simp) (Ev.bind (refCmpS_ev a b ha hb) (Ev.some_eq (by simp)))
    · exact Ev.pos (by simp) (Ev.some_eq (by simp))
  · refine Ev.pos rfl (Ev.succ ?_)
    simp only [r03_words.j0]
    cases mb : numMay b
    · exact Ev.neg (by simp) (Ev.pos (by simp) (Ev.some_eq (by simp)))
    · exact Ev.pos (by simp) (Ev.bind (refNumCmp_ev a b ha hb ma mb) (Ev.some_eq (by simp)))
theorem split_sz {s : Str} {v : Ver} (h : verSplit s = some v) (hs : Sz s) : Sz v.major ∧ Sz v.minor ∧ Sz v.patch ∧ (∀ x ∈ v.pre, Sz x) ∧ numMay v.major = true ∧ numMay v.minor = true ∧ numMay v.patch = true ∧ v.pre.length < 4294967282 := by
  unfold verSplit at h
  split at h
  · rename_i r
    have hr : Sz r := by unfold Sz at *; simp at hs; omega
    have ht : Sz (r.takeWhile (· != 45)) := by
      have := (List.takeWhile_sublist (fun x : UInt8 => x != 45) (l := r)).length_le
      unfold Sz at *; omega
    have hd : (r.dropWhile (· != 45)).length ≤ r.length := (List.dropWhile_sublist (fun x : UInt8 => x != 45) (l := r)).length_le
    split at h
    · rename_i a b c e
      have hp := sz_parts 46 _ ht
      rw [e] at hp
      split at h
      · rename_i hn
        simp only [Bool.and_eq_true] at hn
        split at h
        · injection h with h
          subst h
          exact ⟨hp a (by simp), hp b (by simp), hp c (by simp), by simp, hn.1.1, hn.1.2, hn.2, by simp⟩
        · rename_i x q e2
          split at h
          · injection h with h
            subst h
            rw [e2] at hd
            have hq : Sz q := by unfold Sz at *; simp at hd; omega
            have := parts_len 46 q
            exact ⟨hp a (by simp), hp b (by simp), hp c (by simp), sz_parts 46 q hq, hn.1.1, hn.1.2, hn.2, by unfold Sz at hq; show (parts 46 q).length < _; omega⟩
          · cases h
      · cases h
    · cases h
  · cases h
theorem refPre_loop (p q : List Str) (hp : ∀ x ∈ p, Sz x) (hq : ∀ x ∈ q, Sz x) (lp : p.length < 4294967282) (lq : q.length < 4294967282) (x0 x1 x2 y0 y1 y2 : ByteArray) : ∀ n i, i + n = p.length → i ≤ q.length →
    Ev (fun k => r03_Cmp.l0 k (p.length : Int) (q.length : Int) (i : Int) x0 x1 x2 (p.map ofL) y0 y1 y2 (q.map ofL)) (cmpLs wordCmp (p.drop i) (q.drop i)) := by
  intro n
  induction n with
  | zero =>
    intro i hi hiq
    refine Ev.succ ?_
    simp only [r03_Cmp.l0]
    refine Ev.neg (by omega) (Ev.succ ?_)
    simp only [r03_Cmp.j2]
    rw [List.drop_of_length_le (by omega : p.length ≤ i)]
    refine Ev.neg (by simp) ?_
    by_cases h : p.length < q.length
    · refine Ev.pos (by omega) (Ev.some_eq ?_)
      rw [drop_at q i (by omega)]
      rfl
    · refine Ev.neg (by omega) (Ev.neg (by omega) (Ev.some_eq ?_))
      rw [List.drop_of_length_le (by omega)]
      rfl
  | succ n ih =>
    intro i hi hiq
    have hia : i < p.length := by omega
    refine Ev.succ ?_
    simp only [r03_Cmp.l0]
    refine Ev.pos (by omega) (Ev.succ ?_)
    simp only [r03_Cmp.j2]
    by_cases h : i < q.length
    · refine Ev.pos (by simpa using h) (Ev.pos (by omega) (Ev.pos (by rw [List.length_map]; omega) (Ev.pos (by rw [List.length_map]; omega) ?_)))
      rw [rdOf_at _ _ _ (by rw [List.length_map]; exact hia), rdOf_at _ _ _ (by rw [List.length_map]; exact h), List.getElem_map, List.getElem_map, drop_at p i hia, drop_at q i h]
      refine Ev.bind (refWords_ev _ _ (hp _ (List.getElem_mem _)) (hq _ (List.getElem_mem _))) ?_
      show Ev _ (or3 (wordCmp p[i] q[i]) (cmpLs wordCmp (p.drop (i + 1)) (q.drop (i + 1))))
      unfold or3
      by_cases h0 : wordCmp p[i] q[i] = 0
      · rw [if_pos h0]
        refine Ev.pos h0 ?_
        rw [w64n i (by omega)]
        exact ih (i + 1) (by omega) (by omega)
      · rw [if_neg h0]
        exact Ev.neg h0 (Ev.some_ _)
    · refine Ev.neg (by simpa using h) ?_
      refine Ev.neg (by omega) (Ev.pos (by omega) (Ev.some_eq ?_))
      rw [List.drop_of_length_le (by omega : q.length ≤ i), drop_at p i hia]
      rfl
theorem refVerCmp_ev (a b : Str) (ha : Sz a) (hb : Sz b) (ma : verMay a = true) (mb : verMay b = true) : Ev (fun k => r03_Cmp.f k (ofL a) (ofL b)) (verCmp a b) := by
  unfold r03_Cmp.f
  unfold verMay at ma mb
  obtain ⟨v, hv⟩ := Option.isSome_iff_exists.1 ma
  obtain ⟨u, hu⟩ := Option.isSome_iff_exists.1 mb
  have h1 := refSplit_ev a ha
  have h2 := refSplit_ev b hb
  rw [hv] at h1
  rw [hu] at h2
  have e : verCmp a b = verCmp' v u := by unfold verCmp verOf; rw [hv, hu]; rfl
  rw [e]
  obtain ⟨s1, s2, s3, s4, m1, m2, m3, l1⟩ := split_sz hv ha
  obtain ⟨t1, t2, t3, t4, n1, n2, n3, l2⟩ := split_sz hu hb
  refine Ev.bind h1 (Ev.bind h2 ?_)
  simp only [refOut]
  unfold verCmp'
  refine Ev.bind (refNumCmp_ev _ _ s1 t1 m1 n1) ?_
  by_cases c1 : numCmp v.major u.major = 0
  · refine Ev.pos c1 (Ev.bind (refNumCmp_ev _ _ s2 t2 m2 n2) ?_)
    by_cases c2 : numCmp v.minor u.minor = 0
    · refine Ev.pos c2 (Ev.bind (refNumCmp_ev _ _ s3 t3 m3 n3) ?_)
      by_cases c3 : numCmp v.patch u.patch = 0
      · refine Ev.pos c3 ?_
        rw [c1, c2, c3]
        show Ev _ (or3 0 (or3 0 (or3 0 (preCmp v.pre u.pre))))
        have z : ∀ x, or3 0 x = x := fun x => rfl
        rw [z, z, z]
        simp only [List.length_map]
        unfold preCmp
        by_cases p0 : v.pre = []
        · refine Ev.pos (by rw [p0]; rfl) ?_
          rw [if_pos p0]
          refine Ev.succ ?_
          simp only [r03_Cmp.j0]
          by_cases q0 : u.pre = []
          · rw [if_pos q0]
            exact Ev.pos (by rw [q0]; rfl) (Ev.some_ _)
          · rw [if_neg q0]
            have : 0 < u.pre.length := List.length_pos_iff.2 q0
            refine Ev.neg (by simp [q0]) (Ev.pos (by rw [p0]; rfl) (Ev.some_ _))
        · have hp0 : 0 < v.pre.length := List.length_pos_iff.2 p0
          refine Ev.neg (by omega) ?_
          rw [if_neg p0]
          refine Ev.succ ?_
          simp only [r03_Cmp.j0]
          refine Ev.neg (by simp) (Ev.neg (by omega) ?_)
          by_cases q0 : u.pre = []
          · rw [if_pos q0]
            exact Ev.pos (by rw [q0]; rfl) (Ev.some_ _)
          · rw [if_neg q0]
            have : 0 < u.pre.length := List.length_pos_iff.2 q0
            refine Ev.neg (by omega) ?_
            exact Ev.val (refPre_loop v.pre u.pre s4 t4 l1 l2 _ _ _ _ _ _ _ 0 (Nat.zero_add _) (Nat.zero_le _)) rfl
      · refine Ev.neg c3 (Ev.some_eq ?_)
        rw [c1, c2]
        show _ = or3 0 (or3 0 (or3 _ _))
        unfold or3
        simp [c3]
    · refine Ev.neg c2 (Ev.some_eq ?_)
      rw [c1]
      unfold or3
      simp [c2]
  · refine Ev.neg c1 (Ev.some_eq ?_)
    unfold or3
    simp [c1]
end Go.Proofs.YtjfcmkddeglghaaGreatDoor.G
end
section
namespace Go.Proofs.YtjfcmkddeglghaaGreatDoor.G
open Go.RowKit Gw Go.Proofs.YtjfcmkddeglghaaGreatDoorW.PrintWords Go.Proofs.YtjfcmkddeglghaaGreatDoorW.PrintLast Go.Proofs.YtjfcmkddeglghaaGreatDoorW.PrintMore
set_option linter.unusedVariables false
set_option linter.unusedSimpArgs false
instance : DecidableEq MNode := fun x y => decidable_of_iff _ (sameN_iff x y)
theorem sameN_eq (x y : SNode) : sameN x y = decide (x = y) := by
  by_cases h : x = y
  · rw [decide_eq_true h]; exact (sameN_iff x y).2 h
  · rw [decide_eq_false h]
    cases hs : sameN x y
    · rfl
    · exact absurd ((sameN_iff x y).1 hs) h
def ndC (x y : SNode) : Int := ndCmp (ndOf x) (ndOf y)
def goodN (x : SNode) : Prop := okNode x = true ∧ mayN x = true
theorem ndOf_inj {x y : SNode} (h : ndOf x = ndOf y) : x = y := by
  obtain ⟨a, b⟩ := x
  obtain ⟨c, d⟩ := y
  unfold ndOf at h
  injection h with h1 h2
  rw [show a = c from ext_data h1, show b = d from ext_data h2]
theorem ndC_total : TotalOn goodN ndC := by
  have h : TotalOn (fun x => mayN x = true) ndC := ndCmp_total.comap ndOf (fun _ h => h) (fun x y _ _ h => ndOf_inj h)
  exact ⟨h.self, h.anti, fun a b ha hb => h.eq0 a b ha.2 hb.2, fun a b d ha hb hd => h.trans a b d ha.2 hb.2 hd.2⟩
theorem okNode_sz {x : SNode} (h : okNode x = true) : Sz x.f0.data.toList ∧ Sz x.f1.data.toList := by
  unfold okNode at h
  simp only [Bool.and_eq_true, decide_eq_true_eq] at h
  unfold Sz
  rw [← size_data, ← size_data]
  exact h
theorem refLess_ev (x y : SNode) (hx : goodN x) (hy : goodN y) : Ev (fun k => r05_Less.f k x.f0 x.f1 y.f0 y.f1) (decide (ndC x y < 0)) := by
  obtain ⟨a1, a2⟩ := okNode_sz hx.1
  obtain ⟨b1, b2⟩ := okNode_sz hy.1
  have h1 := refCmpS_ev _ _ a1 b1
  have mx := hx.2
  have my := hy.2
  unfold mayN ndMay at mx my
  simp only [Bool.and_eq_true] at mx my
  have h2 := refVerCmp_ev _ _ a2 b2 mx.2 my.2
  rw [ofL_self, ofL_self] at h1 h2
  unfold r05_Less.f ndC ndCmp
  refine Ev.bind h1 ?_
  show Ev _ (decide (or3 (cmpS x.f0.data.toList y.f0.data.toList) (verCmp x.f1.data.toList y.f1.data.toList) < 0))
  unfold or3
  by_cases c1 : cmpS x.f0.data.toList y.f0.data.toList < 0
  · exact Ev.pos c1 (Ev.some_eq (by rw [if_neg (by omega), decide_eq_true c1]))
  · refine Ev.neg c1 ?_
    by_cases c2 : cmpS x.f0.data.toList y.f0.data.toList = 0
    · exact Ev.pos c2 (Ev.bind h2 (Ev.some_eq (by rw [if_pos c2])))
    · exact Ev.neg c2 (Ev.some_eq (by rw [if_neg c2, decide_eq_false c1]))
theorem rdNode_at (l : List SNode) (i : Nat) (h : i < l.length) : rd_T24 l (i : Int) = l[i] := rdOf_at _ l i h
theorem rdNeed_at (l : List SNeed) (i : Nat) (h : i < l.length) : rd_T49 l (i : Int) = l[i] := rdOf_at _ l i h
theorem refHas_loop (l : List SNode) (x : SNode) (hlen : l.length < 1000000000) : ∀ n i, i + n = l.length → Ev (fun k => r05_Has.l0 k l (i : Int) x.f0 x.f1) (decide (x ∈ l.drop i)) := by
  intro n
  induction n with
  | zero =>
    intro i hi
    refine Ev.succ ?_
    simp only [r05_Has.l0]
    refine Ev.neg (by omega) (Ev.some_eq ?_)
    rw [List.drop_of_length_le (by omega)]
    rfl
  | succ n ih =>
    intro i hi
    have hil : i < l.length := by omega
    refine Ev.succ ?_
    simp only [r05_Has.l0]
    refine Ev.pos (by omega) (Ev.pos (by omega) ?_)
    rw [rdNode_at l i hil, drop_at l i hil, w64n i (by omega)]
    by_cases h : sameN l[i] x = true
    · refine Ev.pos h (Ev.some_eq ?_)
      rw [(sameN_iff _ _).1 h]
      simp
    · refine Ev.neg h (Ev.val (ih (i + 1) (by omega)) ?_)
      have hne : ¬ x = l[i] := fun e => h ((sameN_iff _ _).2 e.symm)
      apply decide_eq_decide.2
      rw [List.mem_cons]
      constructor
      · exact fun hh => .inr hh
      · exact fun hh => hh.resolve_left hne
theorem refHas_ev (l : List SNode) (x : SNode) (hlen : l.length < 1000000000) : Ev (fun k => r05_Has.f k l x.f0 x.f1) (decide (x ∈ l)) := by
  unfold r05_Has.f
  exact Ev.val (refHas_loop l x hlen _ 0 (Nat.zero_add _)) (by rw [List.drop_zero])
end Go.Proofs.YtjfcmkddeglghaaGreatDoor.G
end
section
set_option linter.unusedVariables false
set_option linter.unusedSimpArgs false
namespace Gw
theorem nodup_len {α : Type} [DecidableEq α] : ∀ (l m : List α), l.Nodup → (∀ x ∈ l, x ∈ m) → l.length ≤ m.length := by
  intro l
  induction l with
  | nil => intro m _ _; exact Nat.zero_le _
  | cons a l ih =>
    intro m h hs
    rw [List.nodup_cons] at h
    have ha : a ∈ m := hs a (by simp)
    have h1 := ih (m.erase a) h.2 (fun x hx => (List.mem_erase_of_ne (fun e => h.1 (by rw [← e]; exact hx))).2 (hs x (by simp [hx])))
    have h2 := List.length_erase_of_mem ha
    have h3 : 0 < m.length := List.length_pos_of_mem ha
    simp only [List.length_cons]
    omega
section
variable {α : Type} [DecidableEq α]
def pStep (d : Int) (level : List α) (st : List (α × Int) × List α) (x : α × α) : List (α × Int) × List α :=
  if x.2 ∉ st.1.map Prod.fst ∧ x.1 ∈ level then (st.1 ++ [(x.2, d)], st.2 ++ [x.2]) else st
def pInner (l : List (α × α)) (d : Int) (level : List α) (out : List (α × Int)) : List (α × Int) × List α := l.foldl (pStep d level) (out, [])
def pOuter (l : List (α × α)) : Nat → Int → List α → List (α × Int) → Option (List (α × Int))
  | 0, _, _, _ => none
  | n + 1, d, level, out => if level = [] then some out else pOuter l n (d + 1) (pInner l d level out).2 (pInner l d level out).1
theorem pInner_new (d : Int) (level : List α) : ∀ (l : List (α × α)) (out : List (α × Int)) (nx : List α),
    ∃ new : List α, l.foldl (pStep d level) (out, nx) = (out ++ new.map (·, d), nx ++ new) ∧ new.Nodup ∧
      ∀ y, y ∈ new ↔ (∃ x ∈ l, x.1 ∈ level ∧ x.2 = y) ∧ y ∉ out.map Prod.fst := by
  intro l
  induction l with
  | nil => intro out nx; exact ⟨[], by simp, List.nodup_nil, fun y => by simp⟩
  | cons x l ih =>
    intro out nx
    rw [List.foldl_cons]
    by_cases hc : x.2 ∉ out.map Prod.fst ∧ x.1 ∈ level
    · have e : pStep d level (out, nx) x = (out ++ [(x.2, d)], nx ++ [x.2]) := by unfold pStep; rw [if_pos hc]
      rw [e]
      obtain ⟨new, h1, h2, h3⟩ := ih (out ++ [(x.2, d)]) (nx ++ [x.2])
      refine ⟨x.2 :: new, by rw [h1]; simp, ?_, ?_⟩
      · rw [List.nodup_cons]
        refine ⟨fun h => ?_, h2⟩
        have := ((h3 _).1 h).2
        simp at this
      · intro y
        rw [List.mem_cons, h3]
        constructor
        · rintro (rfl | ⟨⟨z, hz, h4, h5⟩, h6⟩)
          · exact ⟨⟨x, by simp, hc.2, rfl⟩, hc.1⟩
          · exact ⟨⟨z, by simp [hz], h4, h5⟩, fun h => h6 (by rw [List.map_append]; exact List.mem_append_left _ h)⟩
        · rintro ⟨⟨z, hz, h4, h5⟩, h6⟩
          by_cases hy : y = x.2
          · exact .inl hy
          · refine .inr ⟨?_, ?_⟩
            · rcases List.mem_cons.1 hz with rfl | hz
              · exact absurd h5.symm hy
              · exact ⟨z, hz, h4, h5⟩
            · rw [List.map_append, List.mem_append]
              rintro (h | h)
              · exact h6 h
              · simp at h; exact hy h
    · have e : pStep d level (out, nx) x = (out, nx) := by unfold pStep; rw [if_neg hc]
      rw [e]
      obtain ⟨new, h1, h2, h3⟩ := ih out nx
      refine ⟨new, h1, h2, fun y => ?_⟩
      rw [h3]
      constructor
      · rintro ⟨⟨z, hz, h4, h5⟩, h6⟩
        exact ⟨⟨z, by simp [hz], h4, h5⟩, h6⟩
      · rintro ⟨⟨z, hz, h4, h5⟩, h6⟩
        refine ⟨?_, h6⟩
        rcases List.mem_cons.1 hz with rfl | hz
        · exact absurd ⟨by rw [h5]; exact h6, h4⟩ hc
        · exact ⟨z, hz, h4, h5⟩
def rStep (c : α → α → Int) (near met : List α) (acc : List α) (x : α × α) : List α :=
  if x.1 ∈ near ∧ x.2 ∉ met then withS c acc x.2 else acc
def rNext (c : α → α → Int) (l : List (α × α)) (near met : List α) : List α := l.foldl (rStep c near met) []
def rLevels (c : α → α → Int) (l : List (α × α)) : Nat → List α → List α → Option (List (List α))
  | 0, _, _ => none
  | n + 1, near, met => if near = [] then some [] else (rLevels c l n (rNext c l near met) (met ++ rNext c l near met)).map fun r => if rNext c l near met = [] then r else rNext c l near met :: r
variable {c : α → α → Int} {p : α → Prop} (h : TotalOn p c)
include h
theorem rNext_mem (near met : List α) : ∀ (l : List (α × α)) (acc : List α), (∀ x ∈ l, p x.2) → (∀ y ∈ acc, p y) → Sorted c acc →
    Sorted c (l.foldl (rStep c near met) acc) ∧ (∀ y ∈ l.foldl (rStep c near met) acc, p y) ∧
      ∀ y, y ∈ l.foldl (rStep c near met) acc ↔ y ∈ acc ∨ (∃ x ∈ l, x.1 ∈ near ∧ x.2 = y) ∧ y ∉ met := by
  intro l
  induction l with
  | nil => intro acc _ h2 h3; exact ⟨h3, h2, fun y => by simp⟩
  | cons x l ih =>
    intro acc h1 h2 h3
    rw [List.foldl_cons]
    have hx := h1 x (by simp)
    by_cases hc : x.1 ∈ near ∧ x.2 ∉ met
    · have e : rStep c near met acc x = withS c acc x.2 := by unfold rStep; rw [if_pos hc]
      rw [e]
      obtain ⟨a, b, d⟩ := ih (withS c acc x.2) (fun y hy => h1 _ (by simp [hy])) (withS_all h h2 hx) (withS_sorted h h2 hx h3)
      refine ⟨a, b, fun y => ?_⟩
      rw [d, mem_withS h h2 hx]
      constructor
      · rintro ((h4 | rfl) | ⟨⟨z, hz, h4, h5⟩, h6⟩)
        · exact .inl h4
        · exact .inr ⟨⟨x, by simp, hc.1, rfl⟩, hc.2⟩
        · exact .inr ⟨⟨z, by simp [hz], h4, h5⟩, h6⟩
      · rintro (h4 | ⟨⟨z, hz, h4, h5⟩, h6⟩)
        · exact .inl (.inl h4)
        · rcases List.mem_cons.1 hz with rfl | hz
          · exact .inl (.inr h5.symm)
          · exact .inr ⟨⟨z, hz, h4, h5⟩, h6⟩
    · have e : rStep c near met acc x = acc := by unfold rStep; rw [if_neg hc]
      rw [e]
      obtain ⟨a, b, d⟩ := ih acc (fun y hy => h1 _ (by simp [hy])) h2 h3
      refine ⟨a, b, fun y => ?_⟩
      rw [d]
      constructor
      · rintro (h4 | ⟨⟨z, hz, h4, h5⟩, h6⟩)
        · exact .inl h4
        · exact .inr ⟨⟨z, by simp [hz], h4, h5⟩, h6⟩
      · rintro (h4 | ⟨⟨z, hz, h4, h5⟩, h6⟩)
        · exact .inl h4
        · rcases List.mem_cons.1 hz with rfl | hz
          · exact absurd ⟨h4, by rw [h5]; exact h6⟩ hc
          · exact .inr ⟨⟨z, hz, h4, h5⟩, h6⟩
structure Levels (c : α → α → Int) (p : α → Prop) (l : List (α × α)) (d : Int) (near met : List α) (lv : List (List α)) (new : List (α × Int)) : Prop where
  pair : ∀ y v, (y, v) ∈ new ↔ ∃ (i : Nat) (L : List α), lv[i]? = some L ∧ y ∈ L ∧ v = d + i
  lvl : ∀ L ∈ lv, Sorted c L ∧ L ≠ [] ∧ ∀ y ∈ L, p y
  fresh : ∀ L ∈ lv, ∀ y ∈ L, y ∉ met
  one : ∀ (i j : Nat) (L L' : List α) (y : α), lv[i]? = some L → lv[j]? = some L' → y ∈ L → y ∈ L' → i = j
  first : ∀ x ∈ l, x.1 ∈ near → x.2 ∈ met ∨ ∃ L, lv[0]? = some L ∧ x.2 ∈ L
  goes : ∀ (i : Nat) (L : List α) (x : α × α), lv[i]? = some L → x ∈ l → x.1 ∈ L → x.2 ∈ met ∨ ∃ (j : Nat) (L' : List α), j ≤ i + 1 ∧ lv[j]? = some L' ∧ x.2 ∈ L'
  from0 : ∀ L, lv[0]? = some L → ∀ y ∈ L, ∃ x ∈ l, x.1 ∈ near ∧ x.2 = y
  fromS : ∀ (i : Nat) (L L' : List α), lv[i]? = some L → lv[i + 1]? = some L' → ∀ y ∈ L', ∃ x ∈ l, x.1 ∈ L ∧ x.2 = y
  nodup : (new.map Prod.fst).Nodup
theorem joint (l : List (α × α)) (hp : ∀ x ∈ l, p x.2) : ∀ (n : Nat) (d : Int) (level : List α) (out : List (α × Int)) (near met : List α),
    (∀ y, y ∈ level ↔ y ∈ near) → (∀ y, y ∈ out.map Prod.fst ↔ y ∈ met) → (out.map Prod.fst).Nodup → (∀ y ∈ met, y ∈ l.map Prod.snd) →
    (level ≠ [] → l.length + 2 ≤ n + out.length) → 1 ≤ n →
    ∃ new lv, pOuter l n d level out = some (out ++ new) ∧ rLevels c l n near met = some lv ∧ Levels c p l d near met lv new := by
  intro n
  induction n with
  | zero => intro d level out near met _ _ _ _ _ h1; omega
  | succ n ih =>
    intro d level out near met hlv hmet hnd hsub hfuel _
    by_cases hl : level = []
    · have hn : near = [] := by
        cases near with
        | nil => rfl
        | cons a t => have := (hlv a).2 (by simp); rw [hl] at this; simp at this
      refine ⟨[], [], by simp [pOuter, hl], by simp [rLevels, hn], ?_⟩
      subst hn
      exact ⟨fun y v => by simp, by simp, by simp, by simp, by simp, by simp, by simp, by simp, by simp⟩
    · have hn : near ≠ [] := fun hn => by
        cases level with
        | nil => exact hl rfl
        | cons a t => have := (hlv a).1 (by simp); rw [hn] at this; simp at this
      obtain ⟨nw, e1, e2, e3⟩ := pInner_new d level l out []
      obtain ⟨r1, r2, r3⟩ := rNext_mem h near met l [] hp (by simp) List.Pairwise.nil
      have hin : pInner l d level out = (out ++ nw.map (·, d), nw) := by unfold pInner; rw [e1]; simp
      have hrn : l.foldl (rStep c near met) [] = rNext c l near met := rfl
      rw [hrn] at r1 r2 r3
      have hsame : ∀ y, y ∈ nw ↔ y ∈ rNext c l near met := by
        intro y
        rw [e3, r3]
        constructor
        · rintro ⟨⟨x, hx, h1, h2⟩, h3⟩
          exact .inr ⟨⟨x, hx, (hlv _).1 h1, h2⟩, fun hm => h3 ((hmet y).2 hm)⟩
        · rintro (h1 | ⟨⟨x, hx, h1, h2⟩, h3⟩)
          · simp at h1
          · exact ⟨⟨x, hx, (hlv _).2 h1, h2⟩, fun hm => h3 ((hmet y).1 hm)⟩
      have hkeys : (out ++ nw.map (·, d)).map Prod.fst = out.map Prod.fst ++ nw := by
        rw [List.map_append, List.map_map]
        congr 1
        exact List.map_id _
      have hnd2 : ((out ++ nw.map (·, d)).map Prod.fst).Nodup := by
        rw [hkeys, List.nodup_append]
        refine ⟨hnd, e2, fun a ha b hb e => ?_⟩
        subst e
        exact ((e3 a).1 hb).2 ha
      have hsub2 : ∀ y ∈ met ++ rNext c l near met, y ∈ l.map Prod.snd := by
        intro y hy
        rcases List.mem_append.1 hy with hy | hy
        · exact hsub y hy
        · obtain ⟨x, hx, _, h2⟩ := (((r3 y).1 hy).resolve_left (by simp)).1
          exact List.mem_map.2 ⟨x, hx, h2⟩
      have hmet2 : ∀ y, y ∈ (out ++ nw.map (·, d)).map Prod.fst ↔ y ∈ met ++ rNext c l near met := by
        intro y
        rw [hkeys, List.mem_append, List.mem_append, hmet, hsame]
      have hlen : out.length + nw.length ≤ l.length := by
        have := nodup_len ((out ++ nw.map (·, d)).map Prod.fst) (l.map Prod.snd) hnd2 (fun x hx => hsub2 x ((hmet2 x).1 hx))
        simpa using this
      have hf := hfuel hl
      obtain ⟨new, lv, p1, p2, L⟩ := ih (d + 1) nw (out ++ nw.map (·, d)) (rNext c l near met) (met ++ rNext c l near met) hsame hmet2 hnd2 hsub2 (by
        intro hne
        have : 0 < nw.length := List.length_pos_iff.2 hne
        simp only [List.length_append, List.length_map]
        omega) (by omega)
      have q1 : pOuter l (n + 1) d level out = some (out ++ (nw.map (·, d) ++ new)) := by
        simp only [pOuter, if_neg hl, hin]
        rw [p1, List.append_assoc]
      have q2 : rLevels c l (n + 1) near met = some (if rNext c l near met = [] then lv else rNext c l near met :: lv) := by
        simp only [rLevels, if_neg hn, p2]
        rfl
      refine ⟨_, _, q1, q2, ?_⟩
      by_cases hne : rNext c l near met = []
      · have hnw : nw = [] := by
          cases nw with
          | nil => rfl
          | cons a t => have := (hsame a).1 (by simp); rw [hne] at this; simp at this
        rw [if_pos hne]
        subst hnw
        have hlv0 : lv = [] ∧ new = [] := by
          rw [hne] at p2
          have hn1 : 1 ≤ n := by omega
          obtain ⟨m, rfl⟩ : ∃ m, n = m + 1 := ⟨n - 1, by omega⟩
          simp [rLevels] at p2
          simp [pOuter] at p1
          exact ⟨p2, p1⟩
        obtain ⟨rfl, rfl⟩ := hlv0
        refine ⟨fun y v => by simp, by simp, by simp, by simp, ?_, by simp, by simp, by simp, by simp⟩
        intro x hx h1
        left
        cases hm : decide (x.2 ∈ met) with
        | true => exact of_decide_eq_true hm
        | false =>
          have := (r3 x.2).2 (.inr ⟨⟨x, hx, h1, rfl⟩, of_decide_eq_false hm⟩)
          rw [hne] at this
          simp at this
      · rw [if_neg hne]
        have hget : ∀ (i : Nat), (rNext c l near met :: lv)[i + 1]? = lv[i]? := fun i => by simp
        refine ⟨?_, ?_, ?_, ?_, ?_, ?_, ?_, ?_, ?_⟩
        · intro y v
          rw [List.mem_append, L.pair]
          constructor
          · rintro (h1 | ⟨i, M, h1, h2, h3⟩)
            · obtain ⟨z, hz, e⟩ := List.mem_map.1 h1
              injection e with e1 e2
              subst e1 e2
              exact ⟨0, _, rfl, (hsame z).1 hz, by simp⟩
            · exact ⟨i + 1, M, by rw [hget]; exact h1, h2, by rw [h3]; push_cast; omega⟩
          · rintro ⟨i, M, h1, h2, h3⟩
            cases i with
            | zero =>
              simp at h1
              subst h1
              left
              exact List.mem_map.2 ⟨y, (hsame y).2 h2, by rw [h3]; simp⟩
            | succ i =>
              rw [hget] at h1
              exact .inr ⟨i, M, h1, h2, by rw [h3]; push_cast; omega⟩
        · intro M hM
          rcases List.mem_cons.1 hM with rfl | hM
          · exact ⟨r1, hne, r2⟩
          · exact L.lvl M hM
        · intro M hM y hy
          rcases List.mem_cons.1 hM with rfl | hM
          · exact (((r3 y).1 hy).resolve_left (by simp)).2
          · exact fun h1 => L.fresh M hM y hy (List.mem_append_left _ h1)
        · intro i j M M' y h1 h2 h3 h4
          cases i with
          | zero =>
            simp at h1
            subst h1
            cases j with
            | zero => rfl
            | succ j =>
              rw [hget] at h2
              exact absurd (List.mem_append_right _ h3) (L.fresh M' (List.mem_of_getElem? h2) y h4)
          | succ i =>
            rw [hget] at h1
            cases j with
            | zero =>
              simp at h2
              subst h2
              exact absurd (List.mem_append_right _ h4) (L.fresh M (List.mem_of_getElem? h1) y h3)
            | succ j =>
              rw [hget] at h2
              rw [L.one i j M M' y h1 h2 h3 h4]
        · intro x hx h1
          by_cases hm : x.2 ∈ met
          · exact .inl hm
          · exact .inr ⟨_, rfl, (r3 x.2).2 (.inr ⟨⟨x, hx, h1, rfl⟩, hm⟩)⟩
        · intro i M x h1 hx h2
          have back : (x.2 ∈ met ++ rNext c l near met) → x.2 ∈ met ∨ ∃ (j : Nat) (L' : List α), j ≤ i + 1 ∧ (rNext c l near met :: lv)[j]? = some L' ∧ x.2 ∈ L' := by
            intro hm
            rcases List.mem_append.1 hm with hm | hm
            · exact .inl hm
            · exact .inr ⟨0, _, by omega, rfl, hm⟩
          cases i with
          | zero =>
            simp at h1
            subst h1
            rcases L.first x hx h2 with hm | ⟨M', h3, h4⟩
            · exact back hm
            · exact .inr ⟨1, M', by omega, by rw [hget]; exact h3, h4⟩
          | succ i =>
            rw [hget] at h1
            rcases L.goes i M x h1 hx h2 with hm | ⟨j, M', h3, h4, h5⟩
            · exact back hm
            · exact .inr ⟨j + 1, M', by omega, by rw [hget]; exact h4, h5⟩
        · intro M h1 y hy
          simp at h1
          subst h1
          exact ((((r3 y).1 hy).resolve_left (by simp)).1)
        · intro i M M' h1 h2 y hy
          rw [hget] at h2
          cases i with
          | zero =>
            simp at h1
            subst h1
            exact L.from0 M' h2 y hy
          | succ i =>
            rw [hget] at h1
            exact L.fromS i M M' h1 h2 y hy
        · rw [List.map_append, List.map_map, List.nodup_append]
          have e : nw.map (Prod.fst ∘ fun x => (x, d)) = nw := List.map_id _
          rw [e]
          refine ⟨e2, L.nodup, fun a ha b hb e => ?_⟩
          subst e
          obtain ⟨⟨y, v⟩, hq, rfl⟩ := List.mem_map.1 hb
          obtain ⟨i, M, h1, h2, _⟩ := (L.pair y v).1 hq
          exact L.fresh M (List.mem_of_getElem? h1) y h2 (List.mem_append_right _ ((hsame y).1 ha))
end
end Gw
end
section
set_option linter.unusedVariables false
set_option linter.unusedSimpArgs false
set_option linter.unusedSectionVars false
namespace Gw
section
variable {α : Type} [DecidableEq α]
def depthOf : List (List α) → α → Nat
  | [], _ => 0
  | L :: lv, y => if y ∈ L then 1 else if depthOf lv y = 0 then 0 else depthOf lv y + 1
theorem depthOf_some : ∀ (lv : List (List α)) (y : α) (i : Nat), depthOf lv y = i + 1 → ∃ L, lv[i]? = some L ∧ y ∈ L := by
  intro lv
  induction lv with
  | nil => intro y i h; simp [depthOf] at h
  | cons L lv ih =>
    intro y i h
    unfold depthOf at h
    split at h
    · rename_i hy
      obtain rfl : i = 0 := by omega
      exact ⟨L, rfl, hy⟩
    · split at h
      · omega
      · obtain ⟨j, rfl⟩ : ∃ j, i = j + 1 := ⟨i - 1, by omega⟩
        obtain ⟨M, h1, h2⟩ := ih y j (by omega)
        exact ⟨M, by simpa using h1, h2⟩
theorem depthOf_zero : ∀ (lv : List (List α)) (y : α), depthOf lv y = 0 ↔ ∀ L ∈ lv, y ∉ L := by
  intro lv
  induction lv with
  | nil => intro y; simp [depthOf]
  | cons L lv ih =>
    intro y
    unfold depthOf
    split
    · rename_i hy; simp [hy]
    · rename_i hy
      split
      · rename_i h0; simp [hy, (ih y).1 h0]
        exact (ih y).1 h0
      · rename_i h0
        simp only [List.mem_cons]
        constructor
        · intro h; omega
        · intro h; exact absurd ((ih y).2 fun M hM => h M (.inr hM)) h0
def minL (c : α → α → Int) : List α → Option α
  | [] => none
  | a :: t => some (t.foldl (fun m x => if c x m < 0 then x else m) a)
def parents (l : List (α × α)) (far : α → Int) (i : Nat) (y : α) : List α := (l.filter fun x => decide (x.2 = y) && decide (far x.1 = (i : Int))).map Prod.fst
def pChain (c : α → α → Int) (l : List (α × α)) (far : α → Int) : Nat → α → Option (List α)
  | 0, y => some [y]
  | i + 1, y => (minL c (parents l far (i + 1) y)).bind fun m => (pChain c l far i m).map (· ++ [y])
def rChain (l : List (α × α)) (lv : List (List α)) : Nat → α → Option (List α)
  | 0, _ => none
  | k + 1, y => if depthOf lv y ≤ 1 then some [y] else (lv[depthOf lv y - 2]?).bind fun L => match L.find? (fun a => decide ((a, y) ∈ l)) with
    | some a => (rChain l lv k a).map (· ++ [y])
    | none => some []
variable {c : α → α → Int} {p : α → Prop} (h : TotalOn p c)
include h
theorem minFold : ∀ (t : List α) (a : α), p a → (∀ x ∈ t, p x) → (t.foldl (fun m x => if c x m < 0 then x else m) a = a ∨ t.foldl (fun m x => if c x m < 0 then x else m) a ∈ t) ∧
    ¬ c a (t.foldl (fun m x => if c x m < 0 then x else m) a) < 0 ∧ ∀ x ∈ t, ¬ c x (t.foldl (fun m x => if c x m < 0 then x else m) a) < 0 := by
  intro t
  induction t with
  | nil => intro a _ _; exact ⟨.inl rfl, h.irrefl a, by simp⟩
  | cons x t ih =>
    intro a ha ht
    have hx := ht x (by simp)
    rw [List.foldl_cons]
    by_cases hc : c x a < 0
    · rw [if_pos hc]
      obtain ⟨h1, h2, h3⟩ := ih x hx (fun y hy => ht _ (by simp [hy]))
      refine ⟨.inr ?_, ?_, ?_⟩
      · rcases h1 with h1 | h1
        · rw [h1]; simp
        · simp [h1]
      · intro hlt
        have pm : p (t.foldl (fun m x => if c x m < 0 then x else m) x) := by
          rcases h1 with h1 | h1
          · rw [h1]; exact hx
          · exact ht _ (by simp [h1])
        exact h2 (h.trans _ _ _ hx ha pm hc hlt)
      · intro y hy
        rcases List.mem_cons.1 hy with rfl | hy
        · exact h2
        · exact h3 y hy
    · rw [if_neg hc]
      obtain ⟨h1, h2, h3⟩ := ih a ha (fun y hy => ht _ (by simp [hy]))
      refine ⟨?_, h2, ?_⟩
      · rcases h1 with h1 | h1
        · exact .inl h1
        · exact .inr (by simp [h1])
      · intro y hy
        rcases List.mem_cons.1 hy with rfl | hy
        · intro hlt
          have pm : p (t.foldl (fun m x => if c x m < 0 then x else m) a) := by
            rcases h1 with h1 | h1
            · rw [h1]; exact ha
            · exact ht _ (by simp [h1])
          rcases h.lt_or y a hx ha with h4 | h4 | h4
          · exact hc h4
          · rw [h4] at hlt; exact h2 hlt
          · exact h2 (h.trans _ _ _ ha hx pm h4 hlt)
        · exact h3 y hy
theorem minL_some : ∀ (L : List α), (∀ x ∈ L, p x) → L ≠ [] → ∃ m, minL c L = some m ∧ m ∈ L ∧ ∀ x ∈ L, ¬ c x m < 0 := by
  intro L hL hne
  cases L with
  | nil => exact absurd rfl hne
  | cons a t =>
    obtain ⟨h1, h2, h3⟩ := minFold h t a (hL a (by simp)) (fun x hx => hL x (by simp [hx]))
    refine ⟨_, rfl, ?_, ?_⟩
    · rcases h1 with h1 | h1
      · rw [h1]; simp
      · simp [h1]
    · intro x hx
      rcases List.mem_cons.1 hx with rfl | hx
      · exact h2
      · exact h3 x hx
theorem find_least (q : α → Bool) : ∀ (L : List α), Sorted c L → ∀ m, L.find? q = some m → m ∈ L ∧ q m = true ∧ ∀ x ∈ L, q x = true → ¬ c x m < 0 := by
  intro L
  induction L with
  | nil => intro _ m hm; simp at hm
  | cons a L ih =>
    intro hs m hm
    unfold Sorted at hs
    rw [List.pairwise_cons] at hs
    rw [List.find?_cons] at hm
    cases hq : q a with
    | true =>
      rw [hq] at hm
      injection hm with hm
      subst hm
      refine ⟨by simp, hq, fun x hx _ => ?_⟩
      rcases List.mem_cons.1 hx with rfl | hx
      · exact h.irrefl _
      · exact h.asymm (hs.1 x hx)
    | false =>
      rw [hq] at hm
      obtain ⟨h1, h2, h3⟩ := ih hs.2 m hm
      refine ⟨by simp [h1], h2, fun x hx hqx => ?_⟩
      rcases List.mem_cons.1 hx with rfl | hx
      · rw [hq] at hqx; simp at hqx
      · exact h3 x hx hqx
structure Told (c : α → α → Int) (p : α → Prop) (l : List (α × α)) (z : α) (lv : List (List α)) (out : List (α × Int)) : Prop where
  lev : Levels c p l 1 [z] [] lv out
  order : TotalOn p c
omit h
variable {l : List (α × α)} {z : α} {lv : List (List α)} {out : List (α × Int)}
theorem lookup_mem : ∀ (out : List (α × Int)), (out.map Prod.fst).Nodup → ∀ y v, out.lookup y = some v ↔ (y, v) ∈ out := by
  intro out
  induction out with
  | nil => intro _ y v; simp
  | cons q out ih =>
    intro hnd y v
    obtain ⟨k, u⟩ := q
    rw [List.map_cons, List.nodup_cons] at hnd
    rw [List.lookup_cons]
    by_cases hk : y = k
    · subst hk
      simp only [beq_self_eq_true]
      constructor
      · intro e; injection e with e; subst e; simp
      · intro hm
        rcases List.mem_cons.1 hm with e | hm
        · injection e with _ e; rw [e]
        · exact absurd (List.mem_map.2 ⟨_, hm, rfl⟩) hnd.1
    · have hb : (y == k) = false := by simpa using hk
      simp only [hb]
      rw [ih hnd.2]
      constructor
      · intro hm; exact List.mem_cons_of_mem _ hm
      · intro hm
        rcases List.mem_cons.1 hm with e | hm
        · injection e with e _; exact absurd e hk
        · exact hm
theorem Told.at (t : Told c p l z lv out) {i : Nat} {L : List α} {y : α} (h1 : lv[i]? = some L) (h2 : y ∈ L) : depthOf lv y = i + 1 := by
  cases hd : depthOf lv y with
  | zero => exact absurd h2 ((depthOf_zero lv y).1 hd L (List.mem_of_getElem? h1))
  | succ j =>
    obtain ⟨M, h3, h4⟩ := depthOf_some lv y j hd
    rw [t.lev.one i j L M y h1 h3 h2 h4]
theorem Told.mem (t : Told c p l z lv out) (y : α) (v : Int) : (y, v) ∈ out ↔ depthOf lv y ≠ 0 ∧ v = depthOf lv y := by
  rw [t.lev.pair]
  constructor
  · rintro ⟨i, L, h1, h2, h3⟩
    have := t.at h1 h2
    omega
  · rintro ⟨h1, h2⟩
    obtain ⟨i, hi⟩ : ∃ i, depthOf lv y = i + 1 := ⟨depthOf lv y - 1, by omega⟩
    obtain ⟨L, h3, h4⟩ := depthOf_some lv y i hi
    exact ⟨i, L, h3, h4, by omega⟩
theorem Told.look (t : Told c p l z lv out) (y : α) : out.lookup y = if depthOf lv y = 0 then none else some (depthOf lv y : Int) := by
  split
  · rename_i h0
    cases hl : out.lookup y with
    | none => rfl
    | some v => exact absurd h0 ((t.mem y v).1 ((lookup_mem out t.lev.nodup y v).1 hl)).1
  · rename_i h0
    exact (lookup_mem out t.lev.nodup y _).2 ((t.mem y _).2 ⟨h0, rfl⟩)
theorem Told.far (t : Told c p l z lv out) (y : α) : (out.lookup y).getD 0 = (depthOf lv y : Int) := by
  rw [t.look]
  split
  · rename_i h0; rw [h0]; rfl
  · rfl
theorem Told.good (t : Told c p l z lv out) {y : α} (h1 : depthOf lv y ≠ 0) : p y := by
  obtain ⟨i, hi⟩ : ∃ i, depthOf lv y = i + 1 := ⟨depthOf lv y - 1, by omega⟩
  obtain ⟨L, h3, h4⟩ := depthOf_some lv y i hi
  exact (t.lev.lvl L (List.mem_of_getElem? h3)).2.2 y h4
theorem Told.chain (t : Told c p l z lv out) : ∀ (i : Nat) (y : α), depthOf lv y = i + 1 →
    ∃ r, pChain c l (fun y => (out.lookup y).getD 0) i y = some r ∧ (∀ k, rChain l lv (i + 1 + k) y = some r) ∧ r.length = i + 1 := by
  intro i
  induction i with
  | zero =>
    intro y hy
    refine ⟨[y], rfl, fun k => ?_, rfl⟩
    rw [show 0 + 1 + k = k + 1 from by omega]
    simp only [rChain]
    rw [if_pos (by omega)]
  | succ i ih =>
    intro y hy
    obtain ⟨L', hL', hyL'⟩ := depthOf_some lv y (i + 1) hy
    have hlt : i + 1 < lv.length := (List.getElem?_eq_some_iff.1 hL').1
    obtain ⟨L, hL⟩ : ∃ L, lv[i]? = some L := ⟨lv[i]'(by omega), List.getElem?_eq_getElem (by omega)⟩
    obtain ⟨hs, _, hpL⟩ := t.lev.lvl L (List.mem_of_getElem? hL)
    have hpar : ∀ a, a ∈ parents l (fun y => (out.lookup y).getD 0) (i + 1) y ↔ a ∈ L ∧ (a, y) ∈ l := by
      intro a
      unfold parents
      rw [List.mem_map]
      simp only [List.mem_filter, Bool.and_eq_true, decide_eq_true_eq, t.far]
      constructor
      · rintro ⟨⟨x1, x2⟩, ⟨h1, h2, h3⟩, rfl⟩
        simp only at h2 h3 h1
        subst h2
        obtain ⟨M, h4, h5⟩ := depthOf_some lv x1 i (by omega)
        rw [hL] at h4
        injection h4 with h4
        subst h4
        exact ⟨h5, h1⟩
      · rintro ⟨h1, h2⟩
        exact ⟨(a, y), ⟨h2, rfl, by rw [t.at hL h1]⟩, rfl⟩
    obtain ⟨x, hx, hx1, hx2⟩ := t.lev.fromS i L L' hL hL' y hyL'
    have hne : parents l (fun y => (out.lookup y).getD 0) (i + 1) y ≠ [] := by
      intro e
      have := (hpar x.1).2 ⟨hx1, by rw [← hx2]; exact hx⟩
      rw [e] at this
      simp at this
    obtain ⟨m, hm1, hm2, hm3⟩ := minL_some t.order _ (fun a ha => hpL a ((hpar a).1 ha).1) hne
    obtain ⟨hmL, hml⟩ := (hpar m).1 hm2
    obtain ⟨m', hm'⟩ : ∃ m', L.find? (fun a => decide ((a, y) ∈ l)) = some m' := by
      cases hf : L.find? (fun a => decide ((a, y) ∈ l)) with
      | some m' => exact ⟨m', rfl⟩
      | none =>
        have := List.find?_eq_none.1 hf m hmL
        simp at this
        exact absurd hml this
    obtain ⟨hf1, hf2, hf3⟩ := find_least t.order _ L hs m' hm'
    have heq : m = m' := by
      rcases t.order.lt_or m m' (hpL _ hmL) (hpL _ hf1) with h1 | h1 | h1
      · exact absurd h1 (hf3 m hmL (by simpa using hml))
      · exact h1
      · exact absurd h1 (hm3 m' ((hpar m').2 ⟨hf1, by simpa using hf2⟩))
    subst heq
    obtain ⟨r, h1, h2, h3⟩ := ih m (t.at hL hmL)
    refine ⟨r ++ [y], ?_, fun k => ?_, by simp [h3]⟩
    · simp only [pChain]
      rw [hm1]
      simp only [Option.bind_some, h1, Option.map_some]
    · rw [show i + 1 + 1 + k = (i + 1 + k) + 1 from by omega]
      simp only [rChain]
      rw [if_neg (by omega), hy, show i + 1 + 1 - 2 = i from by omega, hL]
      simp only [Option.bind_some, hm', h2, Option.map_some]
theorem Told.all (t : Told c p l z lv out) (r : List (α × Int)) (hs : Sorted c (r.map Prod.fst)) (hm : ∀ q, q ∈ r ↔ q ∈ out) :
    r = (setS c lv.flatten).map fun y => (y, (depthOf lv y : Int)) := by
  have hpf : ∀ y ∈ lv.flatten, p y := by
    intro y hy
    obtain ⟨L, hL, hy⟩ := List.mem_flatten.1 hy
    exact (t.lev.lvl L hL).2.2 y hy
  have hfl : ∀ y, y ∈ lv.flatten ↔ depthOf lv y ≠ 0 := by
    intro y
    rw [List.mem_flatten, Ne, depthOf_zero]
    constructor
    · rintro ⟨L, h1, h2⟩ h3; exact h3 L h1 h2
    · intro h3
      cases hd : depthOf lv y with
      | zero => exact absurd ((depthOf_zero lv y).1 hd) h3
      | succ i =>
        obtain ⟨L, h1, h2⟩ := depthOf_some lv y i hd
        exact ⟨L, List.mem_of_getElem? h1, h2⟩
  have e1 : r.map Prod.fst = setS c lv.flatten := by
    refine sorted_ext t.order hs (setS_sorted t.order hpf) fun y => ?_
    rw [mem_setS t.order hpf, hfl, List.mem_map]
    constructor
    · rintro ⟨⟨a, v⟩, h1, rfl⟩
      exact ((t.mem a v).1 ((hm _).1 h1)).1
    · intro h1
      exact ⟨(y, _), (hm _).2 ((t.mem y _).2 ⟨h1, rfl⟩), rfl⟩
  rw [← e1, List.map_map]
  conv => lhs; rw [← List.map_id r]
  apply List.map_congr_left
  intro q hq
  obtain ⟨a, v⟩ := q
  have := ((t.mem a v).1 ((hm _).1 hq)).2
  simp [this]
theorem Told.needs (t : Told c p l z lv out) (x : α × α) (hx : x ∈ l) : (x.1 = z → depthOf lv x.2 = 1) ∧ (depthOf lv x.1 ≠ 0 → depthOf lv x.2 ≠ 0 ∧ depthOf lv x.2 ≤ depthOf lv x.1 + 1) := by
  constructor
  · intro e
    rcases t.lev.first x hx (by simp [e]) with h1 | ⟨L, h1, h2⟩
    · simp at h1
    · exact t.at h1 h2
  · intro h0
    obtain ⟨i, hi⟩ : ∃ i, depthOf lv x.1 = i + 1 := ⟨depthOf lv x.1 - 1, by omega⟩
    obtain ⟨L, h3, h4⟩ := depthOf_some lv x.1 i hi
    rcases t.lev.goes i L x h3 hx h4 with h1 | ⟨j, L', h1, h2, h5⟩
    · simp at h1
    · have := t.at h2 h5
      omega
theorem told_of (ho : TotalOn p c) (l : List (α × α)) (z : α) (hp : ∀ x ∈ l, p x.2) : ∃ lv out, pOuter l (l.length + 2) 1 [z] [] = some out ∧ rLevels c l (l.length + 2) [z] [] = some lv ∧ Told c p l z lv out := by
  obtain ⟨new, lv, h1, h2, h3⟩ := joint ho l hp (l.length + 2) 1 [z] [] [z] [] (fun _ => Iff.rfl) (fun _ => by simp) (by simp) (by simp) (by simp) (by omega)
  exact ⟨lv, new, by simpa using h1, h2, ⟨h3, ho⟩⟩
end
end Gw
end
section
namespace Go.Proofs.YtjfcmkddeglghaaGreatDoor.G
open Go.RowKit Gw
set_option linter.unusedVariables false
set_option linter.unusedSimpArgs false
abbrev SDeep := S46
def zN : SNode := ⟨⟨#[]⟩, ⟨#[]⟩⟩
def prs (l : List SNeed) : List (SNode × SNode) := l.map fun x => (x.f0, x.f1)
theorem lookI_eq : ∀ (l : DMap) (x : SNode) (i : Nat), (lookI l x i).map (·.2) = l.lookup x := by
  intro l
  induction l with
  | nil => intro x i; rfl
  | cons p l ih =>
    intro x i
    obtain ⟨k, v⟩ := p
    unfold lookI
    rw [List.lookup_cons, sameN_eq]
    by_cases h : x = k
    · subst h; simp
    · have hb : (x == k) = false := by simpa using h
      simp only [hb, decide_eq_false h]
      exact ih x (i + 1)
theorem lookM_eq (l : DMap) (x : SNode) : lookM l x = l.lookup x := lookI_eq l x 0
theorem lookup_none {l : DMap} {x : SNode} : (l.lookup x).isNone = decide (x ∉ l.map Prod.fst) := by
  induction l with
  | nil => rfl
  | cons p l ih =>
    obtain ⟨k, v⟩ := p
    rw [List.lookup_cons]
    by_cases h : x = k
    · subst h; simp
    · have hb : (x == k) = false := by simpa using h
      simp only [hb]
      rw [ih]
      apply decide_eq_decide.2
      simp [h]
theorem any_same (level : List SNode) (x : SNode) : level.any (sameN x) = decide (x ∈ level) := by
  induction level with
  | nil => rfl
  | cons y l ih =>
    rw [List.any_cons, ih, sameN_eq, ← Bool.decide_or]
    apply decide_eq_decide.2
    simp
theorem stepD_eq (d : Int) (level : List SNode) (st : DMap × List SNode) (x : SNeed) : stepD d level st x = pStep d level st (x.f0, x.f1) := by
  unfold stepD pStep
  rw [lookM_eq, lookup_none, any_same]
  rw [← Bool.decide_and]
  simp only [decide_eq_true_eq]
theorem innerD_eq (l : List SNeed) (d : Int) (level : List SNode) (out : DMap) : innerD l d level out = pInner (prs l) d level out := by
  unfold innerD pInner prs
  rw [List.foldl_map]
  congr 1
  funext st x
  exact stepD_eq d level st x
theorem outerD_eq (l : List SNeed) : ∀ (n : Nat) (d : Int) (level : List SNode) (out : DMap), outerD l n d level out = pOuter (prs l) n d level out := by
  intro n
  induction n with
  | zero => intro d level out; rfl
  | succ n ih =>
    intro d level out
    unfold outerD pOuter
    rw [innerD_eq, ih]
def depsOf (r : DMap) : List SDeep := (setS ndC (r.map Prod.fst)).map fun y => ⟨y, (lookM r y).getD 0⟩
theorem deps_unique {r : DMap} (hn : (r.map Prod.fst).Nodup) (hg : ∀ y ∈ r.map Prod.fst, goodN y) (ys : List SDeep) (hs : Sorted ndC (ys.map fun q => q.f0)) (hm : ∀ q : SDeep, q ∈ ys ↔ (q.f0, q.f1) ∈ r) : ys = depsOf r := by
  have e1 : ys.map (fun q => q.f0) = setS ndC (r.map Prod.fst) := by
    refine sorted_ext ndC_total hs (setS_sorted ndC_total hg) fun y => ?_
    rw [mem_setS ndC_total hg, List.mem_map, List.mem_map]
    constructor
    · rintro ⟨q, h1, rfl⟩
      exact ⟨_, (hm q).1 h1, rfl⟩
    · rintro ⟨⟨y, v⟩, h1, rfl⟩
      exact ⟨⟨y, v⟩, (hm ⟨y, v⟩).2 h1, rfl⟩
  unfold depsOf
  rw [← e1, List.map_map]
  conv => lhs; rw [← List.map_id ys]
  apply List.map_congr_left
  intro q hq
  have := (lookup_mem r hn q.f0 q.f1).2 ((hm q).1 hq)
  simp only [Function.comp, lookM_eq, this, Option.getD_some, id]
theorem good_to {l : List SNeed} (hok : ∀ x ∈ l, okNeed x = true) (hb : l.any badNeed = false) : ∀ x ∈ prs l, goodN x.2 := by
  intro x hx
  obtain ⟨y, hy, rfl⟩ := List.mem_map.1 hx
  have h1 := hok y hy
  unfold okNeed at h1
  simp only [Bool.and_eq_true] at h1
  have h2 := List.any_eq_false.1 hb y hy
  unfold badNeed at h2
  refine ⟨h1.2, ?_⟩
  cases hm : mayN y.f1
  · rw [hm] at h2; simp at h2
  · rfl
theorem told_needs {l : List SNeed} (hok : ∀ x ∈ l, okNeed x = true) (hb : l.any badNeed = false) : ∃ lv out, outerD l (l.length + 2) 1 [zN] [] = some out ∧ rLevels ndC (prs l) (l.length + 2) [zN] [] = some lv ∧ Gw.Told ndC goodN (prs l) zN lv out := by
  obtain ⟨lv, out, h1, h2, h3⟩ := told_of ndC_total (prs l) zN (good_to hok hb)
  have e : (prs l).length = l.length := by simp [prs]
  rw [e] at h1 h2
  exact ⟨lv, out, by rw [outerD_eq]; exact h1, h2, h3⟩
end Go.Proofs.YtjfcmkddeglghaaGreatDoor.G
end
section
namespace Go.Proofs.YtjfcmkddeglghaaGreatDoor.G
open Go.RowKit Gw Go.Proofs.YtjfcmkddeglghaaGreatDoorW.PrintWords Go.Proofs.YtjfcmkddeglghaaGreatDoorW.PrintLast
open Go.ChangeMaps (setBlock)
set_option linter.unusedVariables false
set_option linter.unusedSimpArgs false
def lf (l : DMap) (seen : Array Nat) : Nat := (leftOf (ents l).toArray seen).size
theorem ents_mem {l : DMap} {e : MapEntry} (h : e ∈ ents l) : ∃ (i : Nat) (hi : i < l.length), e = entAt l[i] i := by
  unfold ents at h
  obtain ⟨⟨p, i⟩, h1, rfl⟩ := List.mem_map.1 h
  obtain ⟨h2, h3⟩ := List.mem_zipIdx_iff_getElem?.1 h1 |> fun h => List.getElem?_eq_some_iff.1 h
  exact ⟨i, h2, by rw [h3]⟩
theorem mem_ents (l : DMap) (i : Nat) (hi : i < l.length) : entAt l[i] i ∈ ents l := by
  unfold ents
  exact List.mem_map.2 ⟨(l[i], i), List.mem_zipIdx_iff_getElem?.2 (List.getElem?_eq_getElem hi), rfl⟩
theorem ents_born (l : DMap) : (ents l).map (·.born) = List.range l.length := by
  unfold ents
  rw [List.map_map]
  have : (fun e : MapEntry => e.born) ∘ (fun q : (MNode × Int) × Nat => entAt q.1 q.2) = Prod.snd := rfl
  rw [this, List.zipIdx_map_snd, List.range_eq_range']
theorem ents_length (l : DMap) : (ents l).length = l.length := by unfold ents; simp
theorem lf_start (l : DMap) : lf l #[] ≤ l.length := by
  unfold lf leftOf
  refine Nat.le_trans Array.size_filter_le ?_
  rw [List.size_toArray, ents_length]
  exact Nat.le_refl _
theorem next_nodes (w : World) (rb B : Nat) (l : DMap) (seen : Array Nat) (hit : w.heap[rb]? = some (.mapIter (some B) l.length seen l.length)) (hm : MapIs w B l) :
    (lf l seen = 0 ∧ ∀ ty, (Instr.next (.pointer (some ⟨rb, 0, none⟩)) false ty).run Tryz.prog w = .ok (.tuple #[.bool false]) w) ∨
    ∃ (i : Nat) (hi : i < l.length) (w2 : World), seen.contains i = false ∧ lf l (seen.push i) < lf l seen ∧ w2.heap[rb]? = some (.mapIter (some B) l.length (seen.push i) l.length) ∧ (∀ k : Nat, k ≠ rb → w2.heap[k]? = w.heap[k]?) ∧ Below rb w w2 ∧
      (∀ ty, (Instr.next (.pointer (some ⟨rb, 0, none⟩)) false ty).run Tryz.prog w = .ok (.tuple #[.bool true, .agg #[.string l[i].1.f0, .string l[i].1.f1], .int .i64 l[i].2]) w2) ∧
      (Instr.entry (.pointer (some ⟨rb, 0, none⟩))).run Tryz.prog w2 = .ok (.tuple #[.agg #[.string l[i].1.f0, .string l[i].1.f1], .int .i64 l[i].2]) w2 := by
  have hb : w.heap[B]? = some (.map (ents l).toArray l.length) := hm
  have hne : B ≠ rb := by rintro rfl; rw [hb] at hit; cases hit
  have hold : ∀ x ∈ (ents l).toArray.toList, x.born < l.length := by
    intro x hx
    obtain ⟨i, hi, rfl⟩ := ents_mem (by simpa using hx)
    exact hi
  have h := fun ty => run_next_at (P := Tryz.prog) w ty rb B l.length l.length seen (ents l).toArray l.length hit hb hold (Nat.le_refl _)
  by_cases h0 : (leftOf (ents l).toArray seen).size = 0
  · refine .inl ⟨h0, fun ty => ?_⟩
    rcases h ty with ⟨_, h1⟩ | ⟨e, he, _⟩
    · exact h1
    · have : leftOf (ents l).toArray seen = #[] := Array.eq_empty_of_size_eq_zero h0
      rw [this] at he
      simp at he
  · have hty : ∀ ty, (Instr.next (.pointer (some ⟨rb, 0, none⟩)) false ty).run Tryz.prog w = (Instr.next (.pointer (some ⟨rb, 0, none⟩)) false 0).run Tryz.prog w := by
      intro ty
      simp only [Instr.next]
    rcases h 0 with ⟨h1, _⟩ | ⟨e, he, w1, hw1, hrun⟩
    · exact absurd h1 h0
    · obtain ⟨hmem, hseen⟩ := mem_left he
      obtain ⟨i, hi, rfl⟩ := ents_mem (by simpa using hmem)
      have hr1 : w1.heap[rb]? = some (.mapIter (some B) l.length seen l.length) := by rcases hw1 with rfl | rfl <;> exact hit
      have hlt : rb < w1.heap.size := (Array.getElem?_eq_some_iff.1 hr1).1
      have h1b : ∀ k : Nat, w1.heap[k]? = w.heap[k]? := by intro k; rcases hw1 with rfl | rfl <;> rfl
      have hs : (setBlock w1 rb (.mapIter (some B) l.length (seen.push i) l.length)).heap[rb]? = some (.mapIter (some B) l.length (seen.push i) l.length) := by
        simp only [setBlock]
        rw [Array.getElem?_setIfInBounds_self_of_lt hlt]
      have ho : ∀ k : Nat, k ≠ rb → (setBlock w1 rb (.mapIter (some B) l.length (seen.push i) l.length)).heap[k]? = w.heap[k]? := by
        intro k hk
        simp only [setBlock]
        rw [Array.getElem?_setIfInBounds_ne (fun e => hk e.symm), h1b]
      refine .inr ⟨i, hi, setBlock w1 rb (.mapIter (some B) l.length (seen.push i) l.length), hseen, left_shrinks _ _ _ he, hs, ho, ?_, fun ty => by rw [hty]; exact hrun, ?_⟩
      · refine ⟨?_, ?_, ?_, ?_, fun k hk => ho k (by omega)⟩
        · rcases hw1 with rfl | rfl <;> rfl
        · rcases hw1 with rfl | rfl <;> rfl
        · rcases hw1 with rfl | rfl <;> rfl
        · simp only [setBlock, Array.size_setIfInBounds]
          rcases hw1 with rfl | rfl <;> exact Nat.le_refl _
      · exact run_entry_at (P := Tryz.prog) _ rb B l.length seen (ents l).toArray l.length (entAt l[i] i) hs ((ho B hne).trans hb) (by simpa using mem_ents l i hi) (by
          show ((ents l).map (·.born)).Nodup
          rw [ents_born]
          exact List.nodup_range)
theorem all_met {l : DMap} {seen : Array Nat} (h : lf l seen = 0) (i : Nat) (hi : i < l.length) : seen.contains i = true :=
  all_seen (ents l).toArray seen h (entAt l[i] i) (by simpa using mem_ents l i hi)
def gotD (l : DMap) (seen : Array Nat) : List S46 := seen.toList.map fun i => ⟨(l.getD i (zN, 0)).1, (l.getD i (zN, 0)).2⟩
theorem gotD_push (l : DMap) (seen : Array Nat) (i : Nat) (hi : i < l.length) : gotD l (seen.push i) = gotD l seen ++ [⟨l[i].1, l[i].2⟩] := by
  unfold gotD
  rw [Array.toList_push, List.map_append, List.map_singleton, List.getD_eq_getElem?_getD, List.getElem?_eq_getElem hi]
  rfl
theorem gotD_length (l : DMap) (seen : Array Nat) : (gotD l seen).length = seen.size := by unfold gotD; simp
structure Came (l : DMap) (seen : Array Nat) : Prop where
  lt : ∀ i ∈ seen.toList, i < l.length
  nd : seen.toList.Nodup
theorem Came.push {l : DMap} {seen : Array Nat} (h : Came l seen) {i : Nat} (hi : i < l.length) (hs : seen.contains i = false) : Came l (seen.push i) := by
  have hn : i ∉ seen.toList := fun hm => by
    have : seen.contains i = true := by simpa using hm
    rw [hs] at this
    cases this
  refine ⟨fun j hj => ?_, ?_⟩
  · rw [Array.toList_push, List.mem_append] at hj
    rcases hj with hj | hj
    · exact h.lt j hj
    · rw [List.mem_singleton.1 hj]; exact hi
  · rw [Array.toList_push, List.nodup_append]
    refine ⟨h.nd, by simp, fun a ha b hb e => ?_⟩
    rw [List.mem_singleton.1 hb] at e
    rw [e] at ha
    exact hn ha
theorem Came.mem {l : DMap} {seen : Array Nat} (h : Came l seen) (h0 : lf l seen = 0) (q : S46) : q ∈ gotD l seen ↔ (q.f0, q.f1) ∈ l := by
  unfold gotD
  rw [List.mem_map]
  constructor
  · rintro ⟨i, hi, rfl⟩
    have hl := h.lt i hi
    rw [List.getD_eq_getElem?_getD, List.getElem?_eq_getElem hl]
    exact List.getElem_mem hl
  · intro hq
    obtain ⟨i, hi, e⟩ := List.getElem_of_mem hq
    have hc := all_met h0 i hi
    refine ⟨i, by simpa using hc, ?_⟩
    rw [List.getD_eq_getElem?_getD, List.getElem?_eq_getElem hi]
    obtain ⟨a, b⟩ := q
    simp only [Option.getD_some, e]
theorem Came.sub {l : DMap} {seen : Array Nat} (h : Came l seen) : ∀ q ∈ gotD l seen, (q.f0, q.f1) ∈ l := by
  intro q hq
  unfold gotD at hq
  obtain ⟨i, hi, rfl⟩ := List.mem_map.1 hq
  have hl := h.lt i hi
  rw [List.getD_eq_getElem?_getD, List.getElem?_eq_getElem hl]
  exact List.getElem_mem hl
theorem Came.nodup {l : DMap} {seen : Array Nat} (h : Came l seen) (hn : (l.map Prod.fst).Nodup) : ((gotD l seen).map fun q => q.f0).Nodup := by
  unfold gotD
  rw [List.map_map]
  unfold List.Nodup
  rw [List.pairwise_map]
  have hp := h.nd
  unfold List.Nodup at hp
  refine hp.imp_of_mem ?_
  intro i j hi hj hne e
  have h1 := h.lt i hi
  have h2 := h.lt j hj
  simp only [Function.comp, List.getD_eq_getElem?_getD, List.getElem?_eq_getElem h1, List.getElem?_eq_getElem h2, Option.getD_some] at e
  unfold List.Nodup at hn
  have hp2 := List.pairwise_iff_getElem.1 hn
  rcases Nat.lt_trichotomy i j with hlt | hlt | hlt
  · exact hp2 i j (by simpa using h1) (by simpa using h2) hlt (by rw [List.getElem_map, List.getElem_map]; exact e)
  · exact hne hlt
  · exact hp2 j i (by simpa using h2) (by simpa using h1) hlt (by rw [List.getElem_map, List.getElem_map]; exact e.symm)
end Go.Proofs.YtjfcmkddeglghaaGreatDoor.G
end
