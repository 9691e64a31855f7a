/- ArenaMost: sixteen segments, and 4096 words, may be, and no more; the first segment has a word: for all numbers. Conditions: none. -/
import Derived.Test.YtcjicfpdmegckaaAx20
import Derived.Test.YtcjicfpdmegckaaAABB
import Derived.Test.YtcjicfpdmegckaaAADD
namespace Go.Proofs.Ytcjicfpdmegckaa.Pure
open Go.RowKit Go.Proofs.Ytcjicfpdmegckaa.A Go.Proofs.YtcjicfpdmegckaaW.PrintWords Go.Proofs.YtcjicfpdmegckaaW.PrintLast Go.Proofs.YtcjicfpdmegckaaW.PrintMore Go.Proofs.Ytcjicfpdmegckaa.Num Go.Proofs.Ytcjicfpdmegckaa.CrcN

theorem most_fits_ex : fitsB [0, 1] = false := by decide
/-- the end: the sizes of an arena of noughts -/
theorem most_j3 {s : List Int} {a : List (List Int)} {n : Int} {ok : Bool} (ha : lens a = s) (hs : s.length ≤ 20) (hn : n = sumI s) (hn1 : 0 ≤ n ∧ n ≤ 100000) (hok : ok = fitsB s) (k : Nat) (hk : 80000 < k) :
    scullerlaw07_ArenaMost.j3 k s n a ok = some true := by
  obtain ⟨k, rfl⟩ : ∃ j, k = j + 1 := ⟨k - 1, by omega⟩
  have hal : a.length = s.length := by rw [← ha]; exact (List.length_map _).symm
  have ex := fits_eq [0, 1] k (by omega)
  rw [most_fits_ex] at ex
  have hcut : ((cutF s (List.replicate (8 * n).toNat 0)).2 == 0) = ok := by
    unfold cutF
    by_cases hf : fitsB s = true
    · rw [if_pos hf, if_pos (by rw [List.length_replicate]; omega), hok, hf]; rfl
    · rw [if_neg hf, hok, Bool.eq_false_iff.2 hf]; rfl
  have hB : Bytes (List.replicate (8 * n).toNat 0) := fun x hx => by
    have := List.eq_of_mem_replicate hx; omega
  rw [scullerlaw07_ArenaMost.j3, w64 (x := 8 * n) (by omega) (by omega), if_pos (by omega), if_pos (by omega), cut_eq s _ hB (by rw [List.length_replicate]; omega) k (by omega), Option.bind_some, known07_eq k (by omega), Option.bind_some, if_pos rfl, fits_eq s k (by omega), Option.bind_some, if_pos (by rw [hok]; simp), aright_eq a (by omega) k (by omega) (by omega), ha, Option.bind_some, if_pos (by rw [hok]; simp), if_pos (by rw [hcut]; simp),
    sizes_eq a (by omega) k (by omega), ha, Option.bind_some, sameInts_eq s s (by omega) k (by omega), Option.bind_some, if_pos (by simp), ex]
  rfl
/-- the loop that lays the arena -/
theorem most_l1 {s : List Int} {n : Int} (hn : n = sumI s) (hn1 : 0 ≤ n ∧ n ≤ 100000) (h0 : ∀ x ∈ s, 0 ≤ x) (hs : s.length ≤ 20) (hf : fitsB s = decide (1 ≤ s.length ∧ s.length ≤ 16 ∧ n ≤ 4096)) : ∀ (d k i : Nat) (a : List (List Int)), i + d = s.length → lens a = s.take i → d + 90000 < k →
    scullerlaw07_ArenaMost.l1 k (s.length : Int) s n a (i : Int) = some true := by
  intro d
  induction d with
  | zero =>
    intro k i a hi ha hk
    obtain ⟨k, rfl⟩ : ∃ j, k = j + 1 := ⟨k - 1, by omega⟩
    rw [List.take_of_length_le (by omega)] at ha
    rw [scullerlaw07_ArenaMost.l1, if_neg (by omega)]
    by_cases c1 : (s.length : Int) ≥ 1
    · rw [if_pos c1]
      by_cases c2 : (s.length : Int) ≤ 16
      · rw [if_pos c2]
        exact most_j3 ha hs hn hn1 (by rw [hf]; exact decide_eq_decide.2 (by omega)) k (by omega)
      · rw [if_neg c2]
        exact most_j3 ha hs hn hn1 (by rw [hf]; exact (decide_eq_false (by omega)).symm) k (by omega)
    · rw [if_neg c1]
      exact most_j3 ha hs hn hn1 (by rw [hf]; exact (decide_eq_false (by omega)).symm) k (by omega)
  | succ d ih =>
    intro k i a hi ha hk
    obtain ⟨k, rfl⟩ : ∃ j, k = j + 1 := ⟨k - 1, by omega⟩
    have hil : i < s.length := by omega
    have hmem : rd s (i : Int) ∈ s := by
      unfold rd
      rw [Int.toNat_natCast, List.getD_eq_getElem?_getD, List.getElem?_eq_getElem hil]; exact List.getElem_mem hil
    have hx0 := h0 _ hmem
    have hx1 := (mem_le_sum s h0).2 _ hmem
    have hal : a.length = i := by
      have := congrArg List.length ha
      rw [show (lens a).length = a.length from List.length_map _, List.length_take] at this
      omega
    rw [scullerlaw07_ArenaMost.l1, if_pos (by omega), if_pos (by omega), if_pos (by omega), if_pos hx0, if_pos (by omega), if_pos (by omega), w64 (x := (i : Int) + 1) (by omega) (by omega), show (i : Int) + 1 = ((i + 1 : Nat) : Int) by omega]
    refine ih k (i + 1) _ (by omega) ?_ (by omega)
    rw [lens_append, ha, take_rd hil]
    congr 1
    simp only [lens, List.map_cons, List.map_nil, List.length_replicate]
    congr 1
    omega
/-- the loop that sums the sizes -/
theorem most_l0 {s : List Int} (h0 : ∀ x ∈ s, 0 ≤ x) (hm : sumI s ≤ 100000) (hs : s.length ≤ 20) (hf : fitsB s = decide (1 ≤ s.length ∧ s.length ≤ 16 ∧ sumI s ≤ 4096)) : ∀ (d k i : Nat), i + d = s.length → d + 100000 < k →
    scullerlaw07_ArenaMost.l0 k (s.length : Int) s (sumI (s.take i)) (i : Int) = some true := by
  intro d
  induction d with
  | zero =>
    intro k i hi hk
    obtain ⟨k, rfl⟩ : ∃ j, k = j + 1 := ⟨k - 1, by omega⟩
    rw [scullerlaw07_ArenaMost.l0, if_neg (by omega), List.take_of_length_le (by omega)]
    exact most_l1 rfl ⟨(mem_le_sum s h0).1, hm⟩ h0 hs hf s.length k 0 [] (by omega) rfl (by omega)
  | succ d ih =>
    intro k i hi hk
    obtain ⟨k, rfl⟩ : ∃ j, k = j + 1 := ⟨k - 1, by omega⟩
    have e := sum_take_succ (s := s) (i := i) (by omega)
    have b1 := sum_take_le h0 (i + 1)
    rw [scullerlaw07_ArenaMost.l0, if_pos (by omega), if_pos (by omega), if_pos (by omega), ← e, w64 (by omega) (by omega), w64 (x := (i : Int) + 1) (by omega) (by omega)]
    exact ih k (i + 1) (by omega) (by omega)
theorem most_j0 {s : List Int} (h0 : ∀ x ∈ s, 0 ≤ x) (hm : sumI s ≤ 100000) (hs : s.length ≤ 20) (hf : fitsB s = decide (1 ≤ s.length ∧ s.length ≤ 16 ∧ sumI s ≤ 4096)) (k : Nat) (hk : 200000 < k) : scullerlaw07_ArenaMost.j0 k (s.length : Int) s = some true := by
  obtain ⟨k, rfl⟩ : ∃ j, k = j + 1 := ⟨k - 1, by omega⟩
  rw [scullerlaw07_ArenaMost.j0]
  exact most_l0 h0 hm hs hf s.length k 0 (by omega) (by omega)
theorem sumI_zeros (m : Nat) : sumI (List.replicate m 0) = 0 := by
  induction m with
  | zero => rfl
  | succ m ih => rw [List.replicate_succ, sumI, ih]; rfl
theorem sumI_set (l : List Int) : ∀ (i : Nat) (x : Int), i < l.length → sumI (l.set i x) = sumI l - rd l (i : Int) + x := by
  induction l with
  | nil => intro i x h; simp at h
  | cons y t ih =>
    intro i x h
    cases i with
    | zero => rw [List.set_cons_zero, sumI, sumI]; show _ = y + sumI t - y + x; omega
    | succ i =>
      have e : rd (y :: t) ((i + 1 : Nat) : Int) = rd t (i : Int) := rfl
      rw [List.set_cons_succ, sumI, sumI, ih i x (by simpa using h), e]; omega
theorem rd_zeros (m : Nat) (i : Int) : rd (List.replicate m 0) i = 0 := by
  unfold rd
  rw [List.getD_eq_getElem?_getD, List.getElem?_replicate]
  split <;> rfl
theorem ArenaMost : scullerlaw07_ArenaMost.Pure := by
  intro n more hn hm
  have hn := bounds_u8 hn
  have hm := bounds_u16 hm
  refine ⟨300000, ?_⟩
  have m0 := Int.emod_nonneg n (show (20 : Int) ≠ 0 by omega)
  have m1 := Int.emod_lt_of_pos n (show (20 : Int) > 0 by omega)
  have p0 := Int.emod_nonneg more (show (5000 : Int) ≠ 0 by omega)
  have p1 := Int.emod_lt_of_pos more (show (5000 : Int) > 0 by omega)
  obtain ⟨q, hq⟩ : ∃ q : Nat, n % 20 = (q : Int) := ⟨(n % 20).toNat, by omega⟩
  obtain ⟨p, hp⟩ : ∃ p : Int, more % 5000 = p := ⟨_, rfl⟩
  rw [hp] at p0 p1
  unfold scullerlaw07_ArenaMost.f
  rw [tmodn hn.1, hq, w64 (x := (q : Int)) (by omega) (by omega), w64 (x := more) (by omega) (by omega), tmodn hm.1, hp, if_pos (by omega), if_pos (by omega), Option.bind_some, Int.toNat_natCast]
  by_cases hz : (q : Int) > 0
  · have hq1 : wrap64 ((q : Int) - 1) = ((q - 1 : Nat) : Int) := by rw [w64 (by omega) (by omega)]; omega
    rw [if_pos hz, if_pos (by rw [List.length_replicate]; omega), Option.bind_some, hq1, if_pos (by omega), if_pos (by rw [List.length_replicate]; omega), Int.toNat_natCast]
    obtain ⟨z, hzz⟩ : ∃ z : List Int, z = (List.replicate q 0).set (0 : Int).toNat 1 := ⟨_, rfl⟩
    have zl : z.length = q := by rw [hzz, List.length_set, List.length_replicate]
    have zs : sumI z = 1 := by
      have e := sumI_set (List.replicate q 0) 0 1 (by rw [List.length_replicate]; omega)
      have e2 := rd_zeros q ((0 : Nat) : Int)
      have e3 := sumI_zeros q
      rw [hzz]
      show sumI ((List.replicate q 0).set 0 1) = 1
      omega
    have z0 : ∀ x ∈ z, 0 ≤ x := fun x hx => by
      rw [hzz] at hx
      rcases List.mem_or_eq_of_mem_set hx with h | h
      · have := List.eq_of_mem_replicate h; omega
      · omega
    have zh : rd z 0 = 1 := by
      rw [hzz]; unfold rd
      show ((List.replicate q 0).set 0 1).getD 0 0 = 1
      rw [List.getD_eq_getElem?_getD, List.getElem?_set_self (by rw [List.length_replicate]; omega)]; rfl
    rw [← hzz]
    have hr : 0 ≤ rd z ((q - 1 : Nat) : Int) ∧ rd z ((q - 1 : Nat) : Int) ≤ 1 := by
      have hmem : rd z ((q - 1 : Nat) : Int) ∈ z := by
        unfold rd
        rw [Int.toNat_natCast, List.getD_eq_getElem?_getD, List.getElem?_eq_getElem (show q - 1 < z.length by omega)]; exact List.getElem_mem _
      have := (mem_le_sum z z0).2 _ hmem
      have := z0 _ hmem
      omega
    rw [w64 (x := _ + p) (by omega) (by omega)]
    obtain ⟨s, hss⟩ : ∃ s, s = z.set (q - 1) (rd z ((q - 1 : Nat) : Int) + p) := ⟨_, rfl⟩
    have sl : s.length = q := by rw [hss, List.length_set, zl]
    have ssum : sumI s = 1 + p := by rw [hss, sumI_set z (q - 1) _ (by omega)]; omega
    have s0 : ∀ x ∈ s, 0 ≤ x := fun x hx => by
      rw [hss] at hx
      rcases List.mem_or_eq_of_mem_set hx with h | h
      · exact z0 x h
      · omega
    have sh : 1 ≤ s.getD 0 0 := by
      rw [hss, List.getD_eq_getElem?_getD]
      by_cases h1 : q = 1
      · subst h1
        have e : rd z ((1 - 1 : Nat) : Int) = 1 := zh
        rw [show 1 - 1 = 0 from rfl] at e ⊢
        rw [List.getElem?_set_self (by omega)]
        show 1 ≤ _ + p
        omega
      · rw [List.getElem?_set_ne (by omega), ← List.getD_eq_getElem?_getD]
        have : rd z 0 = z.getD 0 0 := rfl
        omega
    rw [← hss]
    have := most_j0 (s := s) s0 (by omega) (by omega) (by
      rw [Bool.eq_iff_iff, fitsB_iff, decide_eq_true_eq]
      exact ⟨fun h => ⟨h.1, h.2.1, h.2.2.2.2⟩, fun h => ⟨h.1, h.2.1, sh, s0, h.2.2⟩⟩) 300000 (by omega)
    rw [sl] at this
    exact this
  · obtain rfl : q = 0 := by omega
    rw [if_neg hz]
    exact most_j0 (s := []) (fun x hx => by cases hx) (by decide) (by decide) (by decide) 300000 (by omega)
end Go.Proofs.Ytcjicfpdmegckaa.Pure
