/- BitsSets: what is set is had, all else as it was; set again it is the same; of n bits, all set, the first that is not is n: for every row of places below 256 (of more than 60 the law asks nothing more than its example) and number of bits. Conditions: none. -/
import Derived.Test.YtbaokbfmancjlaaCx9
import Derived.Test.YtbaokbfmancjlaaCBitsR
import Derived.Test.YtbaokbfmancjlaaCBitsC
namespace Go.Proofs.Ytbaokbfmancjlaa.Pure
open Go.RowKit Go.Proofs.Ytbaokbfmancjlaa.C Go.Proofs.YtbaokbfmancjlaaW.PrintWords Go.Proofs.YtbaokbfmancjlaaW.PrintLast Go.Proofs.YtbaokbfmancjlaaW.PrintMore Go.Proofs.Ytbaokbfmancjlaa.Num

theorem sets2 {n : Nat} (hn : n ≤ 255) {b : List Int} (hb : Bytes b) (hbl : b.length = (n + 7) / 8) : ∀ (d k i : Nat) (c : List Int), i + d = n → d + 40 < k → Bytes c → c.length = (n + 7) / 8 → (∀ j, B c j = decide (j < i)) →
    scullerlaw03_BitsSets.l2 k (n : Int) b ((cb (B b) (8 * b.length) : Nat) : Int) c (i : Int) = some true := by
  intro d
  induction d with
  | zero =>
    intro k i c hi hk hc hcl hB
    obtain ⟨k, rfl⟩ : ∃ j, k = j + 1 := ⟨k - 1, by omega⟩
    obtain rfl : i = n := by omega
    have hf : bits_First.f c (i : Int) = some (i : Int) := by
      obtain ⟨m, hm, h1, h2⟩ := first_spec c
      have him : i = m := by
        rw [hB] at h1
        have := of_decide_eq_false h1
        rcases Nat.lt_or_ge i m with h | h
        · have := h2 i h
          rw [hB, decide_eq_false (by omega)] at this; cases this
        · omega
      subst him
      rw [first_eq hc (by omega), hm]
      congr 1
      unfold mn mx
      repeat' split
      all_goals omega
    have hcc : cb (B c) (8 * c.length) = i := by
      rw [cb_congr (q := fun j => decide (j < i)) (fun j _ => hB j), cb_lt]; omega
    obtain ⟨r, e, hr⟩ := right_nat (l := c) hc (by omega) (n := i) (by omega)
    have hrt : r = true := hr.2 ⟨hcl, fun j hj => by rw [hB]; exact decide_eq_false (by omega)⟩
    subst hrt
    rw [scullerlaw03_BitsSets.l2, if_neg (by omega), known_eq k (by omega), Option.bind_some, if_pos rfl, count_eq hb (by omega) k (by omega), Option.bind_some, if_pos rfl, hf, Option.bind_some, if_pos rfl, count_eq hc (by omega) k (by omega), hcc, Option.bind_some, if_pos rfl, e]
    rfl
  | succ d ih =>
    intro k i c hi hk hc hcl hB
    obtain ⟨k, rfl⟩ : ∃ j, k = j + 1 := ⟨k - 1, by omega⟩
    rw [scullerlaw03_BitsSets.l2, if_pos (by omega), set_nat hc (by omega) (by omega), Option.bind_some, w64 (by omega) (by omega)]
    refine ih k (i + 1) (setB c i) (by omega) (by omega) (setB_bytes hc i) (by rw [setB_length]; exact hcl) fun j => ?_
    rw [B_set, hB]
    by_cases h : j < i
    · rw [decide_eq_true h, decide_eq_true (show j < i + 1 by omega)]; rfl
    · by_cases h2 : i = j
      · rw [decide_eq_true (show i = j ∧ i < 8 * c.length by omega), decide_eq_true (show j < i + 1 by omega)]; simp
      · rw [decide_eq_false h, decide_eq_false (by omega), decide_eq_false (by omega)]; rfl

theorem sets1 {n : Nat} (hn : n ≤ 255) {b : List Int} (hb : Bytes b) (hbl : b.length = (n + 7) / 8) {s : List Bool} (hsl : s.length = 256) (hs : ∀ j, j < 256 → s.getD j false = B b j) : ∀ (d k i : Nat), i + d = 256 → d + 300 < k →
    scullerlaw03_BitsSets.l1 k (n : Int) b s ((cb (B b) (8 * b.length) : Nat) : Int) (i : Int) = some true := by
  intro d
  induction d with
  | zero =>
    intro k i hi hk
    obtain ⟨k, rfl⟩ : ∃ j, k = j + 1 := ⟨k - 1, by omega⟩
    rw [scullerlaw03_BitsSets.l1, if_neg (by omega), make_nat (by omega), Option.bind_some]
    exact sets2 hn hb hbl n k 0 _ (by omega) (by omega) (Bytes.zeros _) (by simp) fun j => by rw [B_zeros, decide_eq_false (by omega)]
  | succ d ih =>
    intro k i hi hk
    obtain ⟨k, rfl⟩ : ∃ j, k = j + 1 := ⟨k - 1, by omega⟩
    rw [scullerlaw03_BitsSets.l1, if_pos (by omega), get_nat hb (by omega), Option.bind_some, if_pos (by omega), if_pos (by omega)]
    have e : rdOf false s (i : Int) = B b i := by unfold rdOf; rw [Int.toNat_natCast, hs i (by omega)]
    rw [e, if_neg (by simp), w64 (by omega) (by omega)]
    exact ih k (i + 1) (by omega) (by omega)

theorem sets0 {l : List Int} (hl : Bytes l) (hll : l.length ≤ 60) {n : Nat} (hn : n ≤ 255) : ∀ (d k i : Nat) (b : List Int) (s : List Bool), i + d = l.length → d + 600 < k → Bytes b → b.length = (n + 7) / 8 → s.length = 256 → (∀ j, j < 256 → s.getD j false = B b j) →
    scullerlaw03_BitsSets.l0 k l (n : Int) b s ((cb (B b) (8 * b.length) : Nat) : Int) (i : Int) = some true := by
  intro d
  induction d with
  | zero =>
    intro k i b s hi hk hb hbl hsl hs
    obtain ⟨k, rfl⟩ : ∃ j, k = j + 1 := ⟨k - 1, by omega⟩
    rw [scullerlaw03_BitsSets.l0, if_neg (by omega)]
    exact sets1 hn hb hbl hsl hs 256 k 0 (by omega) (by omega)
  | succ d ih =>
    intro k i b s hi hk hb hbl hsl hs
    obtain ⟨k, rfl⟩ : ∃ j, k = j + 1 := ⟨k - 1, by omega⟩
    obtain ⟨x0, x1⟩ := hl.at_ i
    have e : rd l (i : Int) = l.getD i 0 := by unfold rd; rw [Int.toNat_natCast]
    obtain ⟨x, hx⟩ : ∃ x : Nat, l.getD i 0 = (x : Int) := ⟨(l.getD i 0).toNat, by omega⟩
    have hcb := cb_le (B b) (8 * b.length)
    rw [scullerlaw03_BitsSets.l0, if_pos (by omega), if_pos (by omega), e, hx, w64 (x := (x : Int)) (by omega) (by omega), set_nat hb (by omega) (by omega), Option.bind_some, tdivn (by omega), w64 (x := (n : Int) + 7) (by omega) (by omega), tdivn (a := (n : Int) + 7) (by omega), w64 (x := (x : Int) / 8) (by omega) (by omega), w64 (x := ((n : Int) + 7) / 8) (by omega) (by omega), w64 (x := (i : Int) + 1) (by omega) (by omega)]
    by_cases h : (x : Int) / 8 < ((n : Int) + 7) / 8
    · rw [if_pos h, if_pos (by omega), if_pos (by omega)]
      have es : rdOf false s (x : Int) = B b x := by unfold rdOf; rw [Int.toNat_natCast, hs x (by omega)]
      rw [es]
      cases hB : B b x with
      | true =>
        rw [if_pos rfl]
        have hsame : ∀ j, B (setB b x) j = B b j := fun j => by
          rw [B_set]
          by_cases hj : x = j
          · subst hj; rw [hB]; rfl
          · rw [decide_eq_false (by omega), Bool.or_false]
        have := ih k (i + 1) (setB b x) s (by omega) (by omega) (setB_bytes hb x) (by rw [setB_length]; exact hbl) hsl (fun j hj => by rw [hsame, hs j hj])
        rw [setB_length, cb_congr (fun j _ => hsame j)] at this
        exact this
      | false =>
        rw [if_neg (by simp), w64 (by omega) (by omega), Int.toNat_natCast]
        have hset : ∀ j, B (setB b x) j = (B b j || decide (x = j)) := fun j => by
          rw [B_set]
          congr 1
          exact decide_eq_decide.2 ⟨fun q => q.1, fun q => ⟨q, by omega⟩⟩
        have := ih k (i + 1) (setB b x) (s.set x true) (by omega) (by omega) (setB_bytes hb x) (by rw [setB_length]; exact hbl) (by rw [List.length_set]; exact hsl) (fun j hj => by
          rw [hset, ← hs j hj, List.getD_eq_getElem?_getD, List.getD_eq_getElem?_getD]
          by_cases hj2 : x = j
          · subst hj2; rw [List.getElem?_set_self (by omega)]; simp
          · rw [List.getElem?_set_ne hj2, decide_eq_false hj2, Bool.or_false])
        rw [setB_length, cb_congr (fun j _ => hset j), cb_one _ _ hB _ (by omega)] at this
        exact this
    · rw [if_neg h, setB_out (by omega)]
      exact ih k (i + 1) b s (by omega) (by omega) hb hbl hsl hs

theorem BitsSets : scullerlaw03_BitsSets.Pure := by
  intro l a _ _ hl ha
  have hb := Bytes.of_wf hl
  obtain ⟨a0, a1⟩ := bounds_u8 ha
  obtain ⟨n, rfl⟩ : ∃ n : Nat, a = n := ⟨a.toNat, by omega⟩
  unfold scullerlaw03_BitsSets.f
  by_cases h : (l.length : Int) > 60
  · refine ⟨5, ?_⟩
    rw [if_pos h, known_eq 5 (by omega)]; rfl
  · refine ⟨1000, ?_⟩
    rw [if_neg h, w64 (x := (n : Int)) (by omega) (by omega), make_nat (by omega), Option.bind_some, if_pos (by omega)]
    have := sets0 hb (by omega) (n := n) (by omega) l.length 1000 0 (List.replicate ((n + 7) / 8) 0) (List.replicate 256 false) (by omega) (by omega) (Bytes.zeros _) (by simp) List.length_replicate (fun j hj => by rw [B_zeros, List.getD_eq_getElem?_getD, List.getElem?_replicate, if_pos hj]; rfl)
    have e : cb (B (List.replicate ((n + 7) / 8) 0)) (8 * (List.replicate ((n + 7) / 8) (0 : Int)).length) = 0 := by
      rw [cb_congr (q := fun j => decide (j < 0)) (fun j _ => by rw [B_zeros, decide_eq_false (by omega)]), cb_lt]; omega
    rw [e] at this
    exact this
end Go.Proofs.Ytbaokbfmancjlaa.Pure
