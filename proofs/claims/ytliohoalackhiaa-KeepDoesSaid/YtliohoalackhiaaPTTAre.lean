/- Words as bytes; how long an arena's segments are. Conditions: none. -/
/- What the arenas made of choices are like. Conditions: those in each theorem. -/
/- What the document's Fits computes. Conditions: those in each theorem. -/
/- What the document's Sizes computes. Conditions: those in each theorem. -/
/- How many words an arena has that may be. Conditions: those in each theorem. -/
/- What the document's Right and Bytes of arenas compute. Conditions: those in each theorem. -/
/- What the greater arenas made of choices are like. Conditions: those in each theorem. -/
/- Of what a manifest's sum is. Conditions: none. -/
/- What the document's Words of manifests computes. Conditions: those in each theorem. -/
/- What the document's Of, Words and Chunks of manifests compute. Conditions: those in each theorem. -/
/- The tokens made of choices may be. Conditions: those in each theorem. -/
import Derived.Test.YtliohoalackhiaaPTTBase
import Derived.Test.YtliohoalackhiaaPTTTok
import Derived.Test.YtliohoalackhiaaPTx4
import Derived.Test.YtliohoalackhiaaPCrcN
import Derived.Test.YtliohoalackhiaaPTx6
import Derived.Test.YtliohoalackhiaaPTx7
import Derived.Test.YtliohoalackhiaaPTx5
import Derived.Test.YtliohoalackhiaaPTx8
import Derived.Test.YtliohoalackhiaaPTx9
import Derived.Test.YtliohoalackhiaaPTBitsK
namespace Go.Proofs.Ytliohoalackhiaa.T
set_option linter.unusedVariables false
open Go.RowKit Go.Proofs.YtliohoalackhiaaW.PrintWords Go.Proofs.YtliohoalackhiaaW.PrintLast Go.Proofs.YtliohoalackhiaaW.PrintMore Go.Proofs.Ytliohoalackhiaa.Num Go.Proofs.Ytliohoalackhiaa.CrcN
def lens (a : List (List Int)) : List Int := a.map fun s => (s.length : Int)
theorem lens_append (a b : List (List Int)) : lens (a ++ b) = lens a ++ lens b := List.map_append
def wbytes : List Int → List Int
  | [] => []
  | x :: t => putL x 8 ++ wbytes t
theorem wbytes_append (a b : List Int) : wbytes (a ++ b) = wbytes a ++ wbytes b := by
  induction a with
  | nil => rfl
  | cons x t ih => simp only [List.cons_append, wbytes, ih, List.append_assoc]
theorem wbytes_length (s : List Int) : (wbytes s).length = 8 * s.length := by
  induction s with
  | nil => rfl
  | cons x t ih => simp only [wbytes, List.length_append, putL_length, List.length_cons, ih]; omega
theorem wbytes_bytes (s : List Int) : Bytes (wbytes s) := by
  induction s with
  | nil => exact fun x hx => by cases hx
  | cons x t ih => exact (putL_bytes x 8).append ih
theorem flat_len (a : List (List Int)) : (a.flatten.length : Int) = sumI (lens a) := by
  induction a with
  | nil => rfl
  | cons s t ih => simp only [List.flatten_cons, List.length_append, lens, List.map_cons, sumI] at ih ⊢; omega
end Go.Proofs.Ytliohoalackhiaa.T
namespace Go.Proofs.Ytliohoalackhiaa.T
set_option linter.unusedVariables false
open Go.RowKit Go.Proofs.YtliohoalackhiaaW.PrintWords Go.Proofs.YtliohoalackhiaaW.PrintLast Go.Proofs.YtliohoalackhiaaW.PrintMore Go.Proofs.Ytliohoalackhiaa.Num Go.Proofs.Ytliohoalackhiaa.CrcN
def U64s (l : List Int) : Prop := ∀ x ∈ l, 0 ≤ x ∧ x ≤ 18446744073709551615
theorem u64_bd (x : Int) : 0 ≤ IntKind.u64.wrap x ∧ IntKind.u64.wrap x ≤ 18446744073709551615 := by rw [u64w]; omega
structure Aok (a : List (List Int)) : Prop where
  u : ∀ s ∈ a, U64s s
  f : fitsB (a.map fun s => (s.length : Int)) = true
structure Amid (a : List (List Int)) : Prop where
  u : ∀ s ∈ a, U64s s
  l : ∀ s ∈ a, s.length ≤ 13
  h : ∀ s, a.head? = some s → 1 ≤ s.length
theorem seg_loop (c : List Int) (n : Int) (a : List (List Int)) (i : Nat) (sz : Nat) (hsz : sz ≤ 13) (ha : a.length ≤ 5) (Q : Option (List (List Int)) → Prop) (k0 : Nat) (m0 : Int) (hm0 : 0 ≤ m0) (hm1 : m0 ≤ 1000)
    (hQ : ∀ (k : Nat) (seg : List Int) (kk : Int), seg.length = sz → U64s seg → 0 ≤ kk → kk ≤ m0 → k0 ≤ k → Q (scullerlaw07_Arena.l0 k c n (a ++ [seg]) kk (wrap64 ((i : Int) + 1)))) : ∀ (d k j : Nat) (seg : List Int) (kk : Int), j + d = sz → seg.length = j → U64s seg → 0 ≤ kk → kk + d ≤ m0 → k0 + d < k →
    Q (scullerlaw07_Arena.l1 k c n a kk (i : Int) seg (sz : Int) (j : Int)) := by
  intro d
  induction d with
  | zero =>
    intro k j seg kk hj hl hu h0 h1 hk
    obtain ⟨k, rfl⟩ : ∃ q, k = q + 1 := ⟨k - 1, by omega⟩
    rw [scullerlaw07_Arena.l1, if_neg (by omega), if_pos (by omega)]
    exact hQ k seg kk (by omega) hu h0 (by omega) (by omega)
  | succ d ih =>
    intro k j seg kk hj hl hu h0 h1 hk
    obtain ⟨k, rfl⟩ : ∃ q, k = q + 1 := ⟨k - 1, by omega⟩
    have step : ∀ x : Int, (0 ≤ x ∧ x ≤ 18446744073709551615) → Q (scullerlaw07_Arena.l1 k c n a (wrap64 (kk + 1)) (i : Int) (seg ++ [x]) (sz : Int) (wrap64 ((j : Int) + 1))) := by
      intro x hx
      rw [w64 (x := kk + 1) (by omega) (by omega), w64 (x := (j : Int) + 1) (by omega) (by omega)]
      have := ih k (j + 1) (seg ++ [x]) (kk + 1) (by omega) (by rw [List.length_append, hl]; rfl) (fun z hz => by
        rcases List.mem_append.1 hz with hz | hz
        · exact hu z hz
        · simp at hz; omega) (by omega) (by omega) (by omega)
      rw [show ((j + 1 : Nat) : Int) = (j : Int) + 1 by omega] at this
      exact this
    rw [scullerlaw07_Arena.l1, if_pos (by omega)]
    by_cases hc : (c.length : Int) > 0
    · have hm := Int.emod_nonneg kk (show (c.length : Int) ≠ 0 by omega)
      have hm2 := Int.emod_lt_of_pos kk (show (c.length : Int) > 0 by omega)
      rw [if_pos hc, if_neg (by omega), tmodn h0, if_pos hm, if_pos hm2, if_pos (by omega)]
      exact step _ (u64_bd _)
    · rw [if_neg hc, if_pos (by omega)]
      exact step _ (u64_bd _)
theorem Amid.snoc {a : List (List Int)} (h : Amid a) {s : List Int} (hu : U64s s) (hl : s.length ≤ 13) (h1 : a = [] → 1 ≤ s.length) : Amid (a ++ [s]) := by
  refine ⟨fun t ht => ?_, fun t ht => ?_, fun t ht => ?_⟩
  · rcases List.mem_append.1 ht with ht | ht
    · exact h.u t ht
    · simp at ht; subst ht; exact hu
  · rcases List.mem_append.1 ht with ht | ht
    · exact h.l t ht
    · simp at ht; subst ht; exact hl
  · cases a with
    | nil => simp at ht; subst ht; exact h1 rfl
    | cons b r => simp at ht; subst ht; exact h.h _ rfl
theorem arena_loop (c : List Int) (n : Int) (hn : 0 ≤ n ∧ n ≤ 255) (hcb : Bytes c) : ∀ (d k i : Nat) (a : List (List Int)) (kk : Int), i + d = 1 + (n % 5).toNat → a.length = i → Amid a → 0 ≤ kk → kk ≤ 14 * i → 20 * d < k →
    ∃ r, scullerlaw07_Arena.l0 k c n a kk (i : Int) = some r ∧ Amid r ∧ r.length = 1 + (n % 5).toNat := by
  have hw : wrap64 (1 + wrap64 (Int.tmod n 5)) = ((1 + (n % 5).toNat : Nat) : Int) := by
    have h0 := Int.emod_nonneg n (show (5 : Int) ≠ 0 by decide)
    have h1 := Int.emod_lt_of_pos n (show (5 : Int) > 0 by decide)
    rw [tmodn hn.1, w64 (x := n % 5) (by omega) (by omega), w64 (by omega) (by omega)]; omega
  have h5 : (n % 5).toNat ≤ 4 := by omega
  intro d
  induction d with
  | zero =>
    intro k i a kk hi hl hA h0 h1 hk
    obtain ⟨k, rfl⟩ : ∃ q, k = q + 1 := ⟨k - 1, by omega⟩
    rw [scullerlaw07_Arena.l0, hw, if_neg (by omega)]
    exact ⟨a, rfl, hA, by omega⟩
  | succ d ih =>
    intro k i a kk hi hl hA h0 h1 hk
    obtain ⟨k, rfl⟩ : ∃ q, k = q + 1 + 1 + 1 := ⟨k - 3, by omega⟩
    obtain ⟨sz, hsz, hs1, e⟩ : ∃ sz : Nat, sz ≤ 13 ∧ (i = 0 → 1 ≤ sz) ∧ scullerlaw07_Arena.l0 (k + 1 + 1 + 1) c n a kk (i : Int) = scullerlaw07_Arena.l1 k c n a kk (i : Int) [] (sz : Int) 0 := by
      have key : ∀ s0 : Nat, s0 ≤ 12 → ∃ sz : Nat, sz ≤ 13 ∧ (i = 0 → 1 ≤ sz) ∧ scullerlaw07_Arena.j1 (k + 1 + 1) c n a kk (i : Int) [] (s0 : Int) = scullerlaw07_Arena.l1 k c n a kk (i : Int) [] (sz : Int) 0 := by
        intro s0 hs0
        by_cases hi0 : i = 0
        · refine ⟨s0 + 1, by omega, fun _ => by omega, ?_⟩
          rw [scullerlaw07_Arena.j1, if_pos (by omega), w64 (x := (s0 : Int) + 1) (by omega) (by omega), scullerlaw07_Arena.j2]; rfl
        · refine ⟨s0, by omega, fun h => absurd h hi0, ?_⟩
          rw [scullerlaw07_Arena.j1, if_neg (by omega), scullerlaw07_Arena.j2]
      rw [scullerlaw07_Arena.l0, hw, if_pos (by omega)]
      by_cases hc : (i : Int) < (c.length : Int)
      · have hil : i < c.length := by omega
        have hx : 0 ≤ rd c (i : Int) ∧ rd c (i : Int) ≤ 255 := by
          unfold rd
          rw [Int.toNat_natCast, List.getD_eq_getElem?_getD, List.getElem?_eq_getElem hil]
          exact hcb _ (List.getElem_mem hil)
        have m0 := Int.emod_nonneg (rd c (i : Int)) (show (12 : Int) ≠ 0 by decide)
        have m1 := Int.emod_lt_of_pos (rd c (i : Int)) (show (12 : Int) > 0 by decide)
        rw [if_pos hc, if_pos (by omega), tmodn hx.1, w64 (x := rd c (i : Int) % 12) (by omega) (by omega)]
        have := key (rd c (i : Int) % 12).toNat (by omega)
        rw [Int.toNat_of_nonneg m0] at this
        exact this
      · rw [if_neg hc]
        exact key 1 (by omega)
    rw [e]
    refine seg_loop c n a i sz hsz (by omega) (fun o => ∃ r, o = some r ∧ Amid r ∧ r.length = 1 + (n % 5).toNat) (20 * d + 1) (14 * (i + 1 : Nat)) (by omega) (by omega) ?_ sz k 0 [] kk (by omega) rfl (fun x hx => by cases hx) h0 (by omega) (by omega)
    intro k' seg kk' hsl hsu g0 g1 hk'
    rw [w64 (x := (i : Int) + 1) (by omega) (by omega)]
    have := ih k' (i + 1) (a ++ [seg]) kk' (by omega) (by rw [List.length_append, hl]; rfl) (hA.snoc hsu (by omega) (fun ha => by subst ha; simp at hl; have := hs1 hl.symm; omega)) g0 g1 (by omega)
    rw [show ((i + 1 : Nat) : Int) = (i : Int) + 1 by omega] at this
    exact this
theorem arena07 (c : List Int) (n : Int) (hn : 0 ≤ n ∧ n ≤ 255) (hcb : Bytes c) (k : Nat) (hk : 100 < k) : ∃ r, scullerlaw07_Arena.f k c n = some r ∧ Amid r ∧ r.length = 1 + (n % 5).toNat := by
  unfold scullerlaw07_Arena.f
  exact arena_loop c n hn hcb (1 + (n % 5).toNat) k 0 [] 0 (by omega) rfl ⟨(fun s hs => by cases hs), (fun s hs => by cases hs), (fun s hs => by cases hs)⟩ (Int.le_refl _) (by omega) (by omega)
structure Ain (a : List (List Int)) (L : Nat) (B : Int) : Prop where
  u : ∀ s ∈ a, U64s s
  h : 1 ≤ (lens a).getD 0 0
  p : 1 ≤ a.length
  l : a.length ≤ L
  w : sumI (lens a) ≤ B
theorem lens_pos (a : List (List Int)) : ∀ x ∈ lens a, 0 ≤ x := by
  intro x hx
  obtain ⟨s, _, rfl⟩ := List.mem_map.1 hx
  omega
theorem Ain.ok {a : List (List Int)} {L : Nat} {B : Int} (h : Ain a L B) (hL : L ≤ 16) (hB : B ≤ 4096) : Aok a :=
  ⟨h.u, (fitsB_iff _).2 ⟨by have := h.p; simpa using this, by have := h.l; simp; omega, h.h, lens_pos a, by have := h.w; exact Int.le_trans this hB⟩⟩
theorem sum_le13 : ∀ (a : List (List Int)), (∀ s ∈ a, s.length ≤ 13) → sumI (lens a) ≤ 13 * a.length := by
  intro a
  induction a with
  | nil => intro _; simp [lens, sumI]
  | cons s t ih =>
    intro h
    have h1 := h s List.mem_cons_self
    have h2 := ih (fun z hz => h z (List.mem_cons_of_mem _ hz))
    simp only [lens, List.map_cons, sumI, List.length_cons] at h2 ⊢
    omega
theorem Amid.ain {a : List (List Int)} (h : Amid a) (hp : 1 ≤ a.length) (hl : a.length ≤ 5) : Ain a 5 65 := by
  refine ⟨h.u, ?_, hp, hl, by have := sum_le13 a h.l; omega⟩
  cases a with
  | nil => simp at hp
  | cons s t => have := h.h s rfl; simp [lens]; omega
theorem Ain.grow {p : List (List Int)} {s : List Int} {L : Nat} {B : Int} (h : Ain (p ++ [s]) L B) {x : Int} (hx : 0 ≤ x ∧ x ≤ 18446744073709551615) : Ain (p ++ [s ++ [x]]) L (B + 1) := by
  have hh := h.h
  have hw := h.w
  rw [lens_append] at hh hw
  refine ⟨fun t ht => ?_, ?_, by simp, by have := h.l; simpa using this, ?_⟩
  · rcases List.mem_append.1 ht with ht | ht
    · exact h.u t (List.mem_append_left _ ht)
    · simp at ht; subst ht
      intro z hz
      rcases List.mem_append.1 hz with hz | hz
      · exact h.u s (by simp) z hz
      · simp at hz; omega
  · rw [lens_append]
    cases p with
    | nil => simp [lens] at hh ⊢; omega
    | cons q r => simpa [lens] using hh
  · rw [lens_append, sumI_append]
    rw [sumI_append] at hw
    simp [lens, sumI] at hw ⊢
    omega
theorem Ain.more {a : List (List Int)} {L : Nat} {B : Int} (h : Ain a L B) (m : Nat) : Ain (a ++ [List.replicate m 0]) (L + 1) (B + m) := by
  refine ⟨fun t ht => ?_, ?_, by simp, by have := h.l; simpa using this, ?_⟩
  · rcases List.mem_append.1 ht with ht | ht
    · exact h.u t ht
    · simp at ht; subst ht
      intro z hz
      have := List.eq_of_mem_replicate hz; omega
  · rw [lens_append]
    have hh := h.h
    have hp := h.p
    cases a with
    | nil => simp at hp
    | cons q r => simpa [lens] using hh
  · have hw := h.w
    rw [lens_append, sumI_append]
    simp [lens, sumI] at hw ⊢
    omega
theorem snoc_of {a : List (List Int)} (h : 1 ≤ a.length) : ∃ p s, a = p ++ [s] := by
  rcases List.eq_nil_or_concat a with rfl | ⟨p, s, rfl⟩
  · simp at h
  · exact ⟨p, s, List.concat_eq_append⟩
end Go.Proofs.Ytliohoalackhiaa.T
namespace Go.Proofs.Ytliohoalackhiaa.T
set_option linter.unusedVariables false
open Go.RowKit Go.Proofs.YtliohoalackhiaaW.PrintWords Go.Proofs.YtliohoalackhiaaW.PrintLast Go.Proofs.YtliohoalackhiaaW.PrintMore Go.Proofs.Ytliohoalackhiaa.Num Go.Proofs.Ytliohoalackhiaa.CrcN
theorem rfits_l0 (s : List Int) (hs : s.length ≤ 16) : ∀ (d k i : Nat) (n : Int), i + d = s.length → d < k → 0 ≤ n → n ≤ 4096 → scullerref07_Fits.l0 k s n (i : Int) = some (okFrom n (s.drop i)) := by
  intro d
  induction d with
  | zero =>
    intro k i n hi hk _ _
    obtain ⟨k, rfl⟩ : ∃ j, k = j + 1 := ⟨k - 1, by omega⟩
    rw [scullerref07_Fits.l0, if_neg (by omega), List.drop_of_length_le (by omega)]; rfl
  | succ d ih =>
    intro k i n hi hk h0 h1
    obtain ⟨k, rfl⟩ : ∃ j, k = j + 1 := ⟨k - 1, by omega⟩
    rw [scullerref07_Fits.l0, if_pos (by omega), if_pos (by omega), drop_rd (by omega), w64 (x := 4096 - n) (by omega) (by omega)]
    by_cases h : 0 ≤ rd s (i : Int) ∧ n + rd s (i : Int) ≤ 4096
    · rw [if_neg (by omega), if_neg (by omega), w64 (x := n + _) (by omega) (by omega), w64 (x := (i : Int) + 1) (by omega) (by omega)]
      have := ih k (i + 1) (n + rd s (i : Int)) (by omega) (by omega) (by omega) h.2
      rw [show ((i + 1 : Nat) : Int) = (i : Int) + 1 by omega] at this
      rw [this]
      simp only [okFrom, decide_eq_true h, Bool.true_and]
    · simp only [okFrom, decide_eq_false h, Bool.false_and]
      by_cases hx : rd s (i : Int) < 0
      · rw [if_pos hx]
      · rw [if_neg hx, if_pos (by omega)]
theorem rfits_eq (s : List Int) (k : Nat) (hk : 20 < k) : scullerref07_Fits.f k s = some (fitsB s) := by
  obtain ⟨k, rfl⟩ : ∃ j, k = j + 1 := ⟨k - 1, by omega⟩
  unfold scullerref07_Fits.f fitsB
  by_cases h1 : (s.length : Int) < 1
  · rw [if_pos h1, scullerref07_Fits.j0, if_pos rfl, decide_eq_false (by omega)]; rfl
  · rw [if_neg h1]
    by_cases h2 : (s.length : Int) > 16
    · rw [if_pos h2, scullerref07_Fits.j0, if_pos rfl, decide_eq_false (by omega)]; rfl
    · rw [if_neg h2, if_pos (by omega), scullerref07_Fits.j0]
      have e : rd s 0 = s.getD 0 0 := rfl
      rw [e]
      by_cases h3 : s.getD 0 0 < 1
      · rw [if_pos (decide_eq_true h3), decide_eq_false (by omega)]; rfl
      · rw [if_neg (by simpa using h3), decide_eq_true (by omega), Bool.true_and]
        have := rfits_l0 s (by omega) s.length k 0 0 (by omega) (by omega) (by omega) (by omega)
        simpa using this
end Go.Proofs.Ytliohoalackhiaa.T
namespace Go.Proofs.Ytliohoalackhiaa.T
set_option linter.unusedVariables false
open Go.RowKit Go.Proofs.YtliohoalackhiaaW.PrintWords Go.Proofs.YtliohoalackhiaaW.PrintLast Go.Proofs.YtliohoalackhiaaW.PrintMore Go.Proofs.Ytliohoalackhiaa.Num Go.Proofs.Ytliohoalackhiaa.CrcN
theorem lens_drop_rd {a : List (List Int)} {i : Nat} (h : i < a.length) : lens (a.take (i + 1)) = lens (a.take i) ++ [((rd_L3 a (i : Int)).length : Int)] := by
  unfold rd_L3
  rw [List.take_succ_eq_append_getElem h, lens_append, Int.toNat_natCast, List.getD_eq_getElem?_getD, List.getElem?_eq_getElem h]; rfl
theorem rsizes_l0 (a : List (List Int)) (hl : a.length < 17592186044416) : ∀ (d k i : Nat), i + d = a.length → d < k → scullerref07_Sizes.l0 k a (lens (a.take i)) (i : Int) = some (lens a) := by
  intro d
  induction d with
  | zero =>
    intro k i hi hk
    obtain ⟨k, rfl⟩ : ∃ j, k = j + 1 := ⟨k - 1, by omega⟩
    rw [scullerref07_Sizes.l0, if_neg (by omega), List.take_of_length_le (by omega)]
  | succ d ih =>
    intro k i hi hk
    obtain ⟨k, rfl⟩ : ∃ j, k = j + 1 := ⟨k - 1, by omega⟩
    have hll : (lens (a.take i)).length < 17592186044416 := by simp only [lens, List.length_map, List.length_take]; omega
    rw [scullerref07_Sizes.l0, if_pos (by omega), if_pos (by omega), if_pos (by omega), ← lens_drop_rd (by omega), w64 (x := (i : Int) + 1) (by omega) (by omega)]
    exact ih k (i + 1) (by omega) (by omega)
theorem rsizes_eq (a : List (List Int)) (hl : a.length < 17592186044416) (k : Nat) (hk : a.length < k) : scullerref07_Sizes.f k a = some (lens a) := by
  unfold scullerref07_Sizes.f
  have := rsizes_l0 a hl a.length k 0 (by omega) hk
  simpa [lens] using this
end Go.Proofs.Ytliohoalackhiaa.T
namespace Go.Proofs.Ytliohoalackhiaa.T
set_option linter.unusedVariables false
open Go.RowKit Go.Proofs.YtliohoalackhiaaW.PrintWords Go.Proofs.YtliohoalackhiaaW.PrintLast Go.Proofs.YtliohoalackhiaaW.PrintMore Go.Proofs.Ytliohoalackhiaa.Num Go.Proofs.Ytliohoalackhiaa.CrcN
theorem Aok.len {a : List (List Int)} (h : Aok a) : 1 ≤ a.length ∧ a.length ≤ 16 ∧ a.flatten.length ≤ 4096 := by
  obtain ⟨h1, h16, _, _, hs⟩ := (fitsB_iff _).1 h.f
  have := flat_len a
  simp only [List.length_map] at h1 h16
  have e : lens a = a.map fun s => (s.length : Int) := rfl
  rw [← e] at hs
  omega
end Go.Proofs.Ytliohoalackhiaa.T
namespace Go.Proofs.Ytliohoalackhiaa.T
set_option linter.unusedVariables false
open Go.RowKit Go.Proofs.YtliohoalackhiaaW.PrintWords Go.Proofs.YtliohoalackhiaaW.PrintLast Go.Proofs.YtliohoalackhiaaW.PrintMore Go.Proofs.Ytliohoalackhiaa.Num Go.Proofs.Ytliohoalackhiaa.CrcN
theorem rright_eq (a : List (List Int)) (hl : a.length < 17592186044416) (k : Nat) (hk : a.length < k) (hk2 : 20 < k) : scullerref07_Right.f k a = some (fitsB (lens a)) := by
  unfold scullerref07_Right.f
  rw [rsizes_eq a hl k hk, Option.bind_some, rfits_eq _ k hk2, Option.bind_some]
theorem flat_take_succ {a : List (List Int)} {i : Nat} (h : i < a.length) : (a.take (i + 1)).flatten = (a.take i).flatten ++ rd_L3 a (i : Int) := by
  unfold rd_L3
  rw [List.take_succ_eq_append_getElem h, List.flatten_append, Int.toNat_natCast, List.getD_eq_getElem?_getD, List.getElem?_eq_getElem h]; simp
theorem rbytes_l1 (a : List (List Int)) (hu : ∀ s ∈ a, U64s s) (hl : a.length ≤ 10000000) (hT : a.flatten.length ≤ 1000000) (i : Nat) (hi : i < a.length) (k0 : Nat) (hk0 : 10 < k0)
    (hN : ∀ k, k0 ≤ k → scullerref07_Bytes.l0 k a (wbytes (a.take (i + 1)).flatten) (wrap64 ((i : Int) + 1)) = some (wbytes a.flatten)) : ∀ (d k j : Nat), j + d = (rd_L3 a (i : Int)).length → d + k0 < k →
    scullerref07_Bytes.l1 k a (wbytes ((a.take i).flatten ++ (rd_L3 a (i : Int)).take j)) (i : Int) (j : Int) = some (wbytes a.flatten) := by
  have hmem : rd_L3 a (i : Int) ∈ a := by
    unfold rd_L3
    rw [Int.toNat_natCast, List.getD_eq_getElem?_getD, List.getElem?_eq_getElem hi]; exact List.getElem_mem hi
  have hsu := hu _ hmem
  have hlen : (a.take i).flatten.length + (rd_L3 a (i : Int)).length ≤ 1000000 := by
    have h1 := flat_take_succ hi
    have h2 : (a.take (i + 1)).flatten.length + (a.drop (i + 1)).flatten.length = a.flatten.length := by
      rw [← List.length_append, ← List.flatten_append, List.take_append_drop]
    rw [h1, List.length_append] at h2; omega
  generalize hs : rd_L3 a (i : Int) = s at hsu hlen ⊢
  intro d
  induction d with
  | zero =>
    intro k j hj hk
    obtain ⟨k, rfl⟩ : ∃ q, k = q + 1 := ⟨k - 1, by omega⟩
    rw [scullerref07_Bytes.l1, if_pos (by omega), if_pos (by omega), hs, if_neg (by omega), List.take_of_length_le (l := s) (by omega)]
    have := hN k (by omega)
    rw [flat_take_succ hi, hs] at this
    exact this
  | succ d ih =>
    intro k j hj hk
    obtain ⟨k, rfl⟩ : ∃ q, k = q + 1 := ⟨k - 1, by omega⟩
    have hx : 0 ≤ rd s (j : Int) ∧ rd s (j : Int) ≤ 18446744073709551615 := by
      unfold rd
      rw [Int.toNat_natCast, List.getD_eq_getElem?_getD, List.getElem?_eq_getElem (show j < s.length by omega)]
      exact hsu _ (List.getElem_mem (show j < s.length by omega))
    have a8 : asked 8 = 8 := by decide
    have e : s.take (j + 1) = s.take j ++ [rd s (j : Int)] := by
      unfold rd
      rw [List.take_succ_eq_append_getElem (by omega), Int.toNat_natCast, List.getD_eq_getElem?_getD, List.getElem?_eq_getElem (show j < s.length by omega)]; rfl
    have e2 : wbytes ((a.take i).flatten ++ s.take (j + 1)) = wbytes ((a.take i).flatten ++ s.take j) ++ putL (rd s (j : Int)) 8 := by
      rw [e, ← List.append_assoc, wbytes_append _ [rd s (j : Int)]]; simp [wbytes]
    have hwl : (wbytes ((a.take i).flatten ++ s.take j)).length ≤ 8000000 := by rw [wbytes_length, List.length_append, List.length_take]; omega
    rw [scullerref07_Bytes.l1, if_pos (by omega), if_pos (by omega), hs, if_pos (by omega), if_pos (by omega), ref_put_eq k (by omega) _ _ hx.1 hx.2, Option.bind_some, a8, if_pos (by rw [putL_length]; omega), ← e2, w64 (x := (j : Int) + 1) (by omega) (by omega)]
    exact ih k (j + 1) (by omega) (by omega)
theorem rbytes_l0 (a : List (List Int)) (hu : ∀ s ∈ a, U64s s) (hl : a.length ≤ 10000000) (hT : a.flatten.length ≤ 1000000) : ∀ (d k i : Nat), i + d = a.length → 2 * d + (a.drop i).flatten.length + 12 < k → scullerref07_Bytes.l0 k a (wbytes (a.take i).flatten) (i : Int) = some (wbytes a.flatten) := by
  intro d
  induction d with
  | zero =>
    intro k i hi hk
    obtain ⟨k, rfl⟩ : ∃ j, k = j + 1 := ⟨k - 1, by omega⟩
    rw [scullerref07_Bytes.l0, if_neg (by omega), List.take_of_length_le (by omega)]
  | succ d ih =>
    intro k i hi hk
    obtain ⟨k, rfl⟩ : ∃ j, k = j + 1 := ⟨k - 1, by omega⟩
    have hil : i < a.length := by omega
    have hd : (a.drop i).flatten.length = (rd_L3 a (i : Int)).length + (a.drop (i + 1)).flatten.length := by
      unfold rd_L3
      rw [List.drop_eq_getElem_cons hil, List.flatten_cons, List.length_append, Int.toNat_natCast, List.getD_eq_getElem?_getD, List.getElem?_eq_getElem hil]; rfl
    rw [scullerref07_Bytes.l0, if_pos (by omega)]
    have := rbytes_l1 a hu hl hT i hil (2 * d + (a.drop (i + 1)).flatten.length + 13) (by omega) (fun k' hk' => by
      rw [w64 (x := (i : Int) + 1) (by omega) (by omega)]
      have := ih k' (i + 1) (by omega) (by omega)
      rw [show ((i + 1 : Nat) : Int) = (i : Int) + 1 by omega] at this
      exact this) (rd_L3 a (i : Int)).length k 0 (by omega) (by omega)
    simpa using this
theorem rbytes_eq (a : List (List Int)) (hu : ∀ s ∈ a, U64s s) (hl : a.length ≤ 10000000) (hT : a.flatten.length ≤ 1000000) (k : Nat) (hk : 2 * a.length + a.flatten.length + 12 < k) : scullerref07_Bytes.f k a = some (wbytes a.flatten) := by
  unfold scullerref07_Bytes.f
  have := rbytes_l0 a hu hl hT a.length k 0 (by omega) (by simpa using hk)
  simpa [wbytes] using this
end Go.Proofs.Ytliohoalackhiaa.T
namespace Go.Proofs.Ytliohoalackhiaa.T
set_option linter.unusedVariables false
open Go.RowKit Go.Proofs.YtliohoalackhiaaW.PrintWords Go.Proofs.YtliohoalackhiaaW.PrintLast Go.Proofs.YtliohoalackhiaaW.PrintMore Go.Proofs.Ytliohoalackhiaa.Num Go.Proofs.Ytliohoalackhiaa.CrcN
theorem arena12_l1 (m : Int) (hm : 0 ≤ m ∧ m ≤ 255) : ∀ (d k i : Nat) (a : List (List Int)) (L : Nat) (B : Int), i + d = (m % 7).toNat → L ≤ 5 + i → B ≤ 65 + 39 + 7 * i → Ain a L B → d < k → ∃ r, scullerlaw12_Arena.l1 k m a (i : Int) = some r ∧ Aok r := by
  have h0 := Int.emod_nonneg m (show (7 : Int) ≠ 0 by decide)
  have h1 := Int.emod_lt_of_pos m (show (7 : Int) > 0 by decide)
  have hw : wrap64 (Int.tmod m 7) = m % 7 := by rw [tmodn hm.1, w64 (by omega) (by omega)]
  intro d
  induction d with
  | zero =>
    intro k i a L B hi hL hB hA hk
    obtain ⟨k, rfl⟩ : ∃ q, k = q + 1 := ⟨k - 1, by omega⟩
    rw [scullerlaw12_Arena.l1, hw, if_neg (by omega)]
    exact ⟨a, rfl, hA.ok (by omega) (by omega)⟩
  | succ d ih =>
    intro k i a L B hi hL hB hA hk
    obtain ⟨k, rfl⟩ : ∃ q, k = q + 1 := ⟨k - 1, by omega⟩
    have hl := hA.l
    rw [scullerlaw12_Arena.l1, hw, if_pos (by omega), if_pos (by omega), if_pos (by omega), if_pos (by omega), w64 (x := (i : Int) + 1) (by omega) (by omega), Int.toNat_natCast]
    have := ih k (i + 1) _ (L + 1) (B + i) (by omega) (by omega) (by omega) (hA.more i) (by omega)
    rw [show ((i + 1 : Nat) : Int) = (i : Int) + 1 by omega] at this
    exact this
theorem arena12_l0 (n m : Int) (hm : 0 ≤ m ∧ m ≤ 255) : ∀ (d k i : Nat) (a : List (List Int)) (B : Int), i + d = (m % 40).toNat → B ≤ 65 + i → Ain a 5 B → d + 10 < k → ∃ r, scullerlaw12_Arena.l0 k n m a (i : Int) = some r ∧ Aok r := by
  have h0 := Int.emod_nonneg m (show (40 : Int) ≠ 0 by decide)
  have h1 := Int.emod_lt_of_pos m (show (40 : Int) > 0 by decide)
  have hw : wrap64 (Int.tmod m 40) = m % 40 := by rw [tmodn hm.1, w64 (by omega) (by omega)]
  intro d
  induction d with
  | zero =>
    intro k i a B hi hB hA hk
    obtain ⟨k, rfl⟩ : ∃ q, k = q + 1 := ⟨k - 1, by omega⟩
    rw [scullerlaw12_Arena.l0, hw, if_neg (by omega)]
    exact arena12_l1 m hm (m % 7).toNat k 0 a 5 B (by omega) (by omega) (by omega) hA (by omega)
  | succ d ih =>
    intro k i a B hi hB hA hk
    obtain ⟨k, rfl⟩ : ∃ q, k = q + 1 := ⟨k - 1, by omega⟩
    obtain ⟨p, s, rfl⟩ := snoc_of hA.p
    have hl := hA.l
    have hsl : (s.length : Int) ≤ B := by
      have h2 := (mem_le_sum (lens (p ++ [s])) (lens_pos _)).2 (s.length : Int) (List.mem_map.2 ⟨s, by simp, rfl⟩)
      exact Int.le_trans h2 hA.w
    have e1 : wrap64 (((p ++ [s]).length : Int) - 1) = (p.length : Int) := by rw [List.length_append, w64 (by simp <;> omega) (by simp at hl; simp; omega)]; simp
    have e2 : rd_L3 (p ++ [s]) (p.length : Int) = s := by
      unfold rd_L3
      rw [Int.toNat_natCast, List.getD_eq_getElem?_getD, List.getElem?_append_right (Nat.le_refl _)]; simp
    rw [scullerlaw12_Arena.l0, hw, if_pos (by omega), e1, if_pos (by omega), if_pos (by simp; omega), e2, if_pos (by omega), w64 (x := (i : Int) + 1) (by omega) (by omega), Int.toNat_natCast]
    have e3 : ∀ y : List Int, (p ++ [s]).set p.length y = p ++ [y] := by intro y; simp
    rw [e3]
    rw [show (i : Int) + 1 = ((i + 1 : Nat) : Int) by omega]
    exact ih k (i + 1) _ (B + 1) (by omega) (by omega) (hA.grow (u64_bd _)) (by omega)
theorem arena12 (c : List Int) (n m : Int) (hn : 0 ≤ n ∧ n ≤ 255) (hm : 0 ≤ m ∧ m ≤ 255) (hcb : Bytes c) (k : Nat) (hk : 100 < k) : ∃ r, scullerlaw12_Arena.f k c n m = some r ∧ Aok r := by
  obtain ⟨a, ha, hA, hl⟩ := arena07 c n hn hcb k hk
  unfold scullerlaw12_Arena.f
  rw [ha, Option.bind_some]
  have h0 := Int.emod_nonneg m (show (40 : Int) ≠ 0 by decide)
  have h1 := Int.emod_lt_of_pos m (show (40 : Int) > 0 by decide)
  have h2 := Int.emod_lt_of_pos n (show (5 : Int) > 0 by decide)
  exact arena12_l0 n m hm (m % 40).toNat k 0 a 65 (by omega) (by omega) (hA.ain (by omega) (by omega)) (by omega)
end Go.Proofs.Ytliohoalackhiaa.T
namespace Go.Proofs.Ytliohoalackhiaa.T
set_option linter.unusedVariables false
open Go.RowKit Go.Proofs.YtliohoalackhiaaW.PrintWords Go.Proofs.YtliohoalackhiaaW.PrintLast Go.Proofs.YtliohoalackhiaaW.PrintMore Go.Proofs.Ytliohoalackhiaa.Num Go.Proofs.Ytliohoalackhiaa.CrcN
def manB (s : Int) (a : List (List Int)) : List Int := (putL s 8 ++ twos (lens a)) ++ wbytes a.flatten
theorem manB_bytes (s : Int) (a : List (List Int)) : Bytes (manB s a) := ((putL_bytes _ _).append (twos_bytes _)).append (wbytes_bytes _)
end Go.Proofs.Ytliohoalackhiaa.T
namespace Go.Proofs.Ytliohoalackhiaa.T
set_option linter.unusedVariables false
open Go.RowKit Go.Proofs.YtliohoalackhiaaW.PrintWords Go.Proofs.YtliohoalackhiaaW.PrintLast Go.Proofs.YtliohoalackhiaaW.PrintMore Go.Proofs.Ytliohoalackhiaa.Num Go.Proofs.Ytliohoalackhiaa.CrcN
theorem rwords_l0 (x : Int) (s : List Int) (y : Int) (hs : s.length ≤ 16) (h0 : ∀ x ∈ s, 0 ≤ x) (hm : sumI s ≤ 4096) : ∀ (d k i : Nat), i + d = s.length → d < k → scullerref12_Words.l0 k (sumI (s.take i)) (i : Int) x s y = some (sumI s) := by
  intro d
  induction d with
  | zero =>
    intro k i hi hk
    obtain ⟨k, rfl⟩ : ∃ j, k = j + 1 := ⟨k - 1, by omega⟩
    rw [scullerref12_Words.l0, if_neg (by omega), List.take_of_length_le (by omega)]
  | succ d ih =>
    intro k i hi hk
    obtain ⟨k, rfl⟩ : ∃ j, k = j + 1 := ⟨k - 1, by omega⟩
    have e : s.take (i + 1) = s.take i ++ [rd s (i : Int)] := by
      unfold rd
      rw [List.take_succ_eq_append_getElem (by omega), Int.toNat_natCast, List.getD_eq_getElem?_getD, List.getElem?_eq_getElem (show i < s.length by omega)]; rfl
    have e2 : sumI (s.take (i + 1)) = sumI (s.take i) + rd s (i : Int) := by rw [e, sumI_append]; simp [sumI]
    have b1 := mem_le_sum (s.take (i + 1)) (fun x hx => h0 x (List.mem_of_mem_take hx))
    have b2 := mem_le_sum (s.drop (i + 1)) (fun x hx => h0 x (List.mem_of_mem_drop hx))
    have b3 : sumI s = sumI (s.take (i + 1)) + sumI (s.drop (i + 1)) := by rw [← sumI_append, List.take_append_drop]
    rw [scullerref12_Words.l0, if_pos (by omega), if_pos (by omega), ← e2, w64 (by omega) (by omega), w64 (x := (i : Int) + 1) (by omega) (by omega)]
    exact ih k (i + 1) (by omega) (by omega)
theorem rwords_eq (x : Int) (s : List Int) (y : Int) (k : Nat) (hk : 20 < k) : scullerref12_Words.f k x s y = some (wordsI s) := by
  unfold scullerref12_Words.f scullerref12_Right.f wordsI
  rw [rfits_eq s k hk, Option.bind_some, Option.bind_some]
  by_cases h : fitsB s = true
  · obtain ⟨_, h16, _, h0, hm⟩ := (fitsB_iff s).1 h
    rw [if_pos h, if_pos h]
    have := rwords_l0 x s y h16 h0 hm s.length k 0 (by omega) (by omega)
    simpa [sumI] using this
  · rw [if_neg h, if_neg h]
end Go.Proofs.Ytliohoalackhiaa.T
namespace Go.Proofs.Ytliohoalackhiaa.T
set_option linter.unusedVariables false
open Go.RowKit Go.Proofs.YtliohoalackhiaaW.PrintWords Go.Proofs.YtliohoalackhiaaW.PrintLast Go.Proofs.YtliohoalackhiaaW.PrintMore Go.Proofs.Ytliohoalackhiaa.Num Go.Proofs.Ytliohoalackhiaa.CrcN
theorem rchunks_eq (x : Int) (s : List Int) (y : Int) (k : Nat) (hk : 20 < k) : scullerref12_Chunks.f k x s y = some (chunksN s : Int) := by
  unfold scullerref12_Chunks.f
  have := wordsI_bd s
  rw [rwords_eq x s y k hk, Option.bind_some, w64 (x := wordsI s + 7) (by omega) (by omega), tdivn (by omega), w64 (by omega) (by omega), chunksN_cast]
theorem rof_l0 (a : List (List Int)) (h : Aok a) (s : Int) (b : List Int) (hbb : Bytes b) (hb : b.length = 8) (z : Int) : ∀ (d k i : Nat), i + d = (lens a).length → d + 400000 < k →
    scullerref12_Of.l0 k a (b ++ twos ((lens a).take i)) (i : Int) s (lens a) z = some (s, lens a, ((sumN (nats ((b ++ twos (lens a)) ++ wbytes a.flatten)) : Nat) : Int), 0) := by
  obtain ⟨l1, l16, lT⟩ := h.len
  have hlen : (lens a).length = a.length := List.length_map _
  intro d
  induction d with
  | zero =>
    intro k i hi hk
    obtain ⟨k, rfl⟩ : ∃ j, k = j + 1 := ⟨k - 1, by omega⟩
    have hB : Bytes ((b ++ twos (lens a)) ++ wbytes a.flatten) := (hbb.append (twos_bytes _)).append (wbytes_bytes _)
    have hl : ((b ++ twos (lens a)) ++ wbytes a.flatten).length ≤ 33000 := by simp only [List.length_append, twos_length, wbytes_length]; omega
    rw [scullerref12_Of.l0, if_neg (by omega), List.take_of_length_le (by omega), rbytes_eq a h.u (by omega) (by omega) k (by omega), Option.bind_some,
      if_pos (by simp only [List.length_append, twos_length, wbytes_length]; omega), refsum_eq _ hB (by omega) k (by omega), Option.bind_some]
  | succ d ih =>
    intro k i hi hk
    obtain ⟨k, rfl⟩ : ∃ j, k = j + 1 := ⟨k - 1, by omega⟩
    have e : (lens a).take (i + 1) = (lens a).take i ++ [rd (lens a) (i : Int)] := by
      unfold rd
      rw [List.take_succ_eq_append_getElem (by omega), Int.toNat_natCast, List.getD_eq_getElem?_getD, List.getElem?_eq_getElem (show i < (lens a).length by omega)]; rfl
    have hx : 0 ≤ rd (lens a) (i : Int) ∧ rd (lens a) (i : Int) ≤ 4096 := by
      unfold rd
      rw [Int.toNat_natCast, List.getD_eq_getElem?_getD, List.getElem?_eq_getElem (show i < (lens a).length by omega)]
      exact fits_mem h.f _ (List.getElem_mem (show i < (lens a).length by omega))
    have a2 : asked 2 = 2 := by decide
    have e2 : b ++ twos ((lens a).take (i + 1)) = (b ++ twos ((lens a).take i)) ++ putL (rd (lens a) (i : Int)) 2 := by
      rw [e, twos_append, List.append_assoc]; simp [twos]
    rw [scullerref12_Of.l0, if_pos (by omega), if_pos (by omega), u64id (by omega) (by omega), ref_put_eq k (by omega) _ _ (by omega) (by omega), Option.bind_some, a2,
      if_pos (by simp only [List.length_append, twos_length, putL_length, List.length_take]; omega), ← e2, w64 (x := (i : Int) + 1) (by omega) (by omega)]
    exact ih k (i + 1) (by omega) (by omega)
theorem rof_eq (a : List (List Int)) (h : Aok a) (s : Int) (hs : 0 ≤ s ∧ s ≤ 18446744073709551615) (k : Nat) (hk : 401000 < k) : scullerref12_Of.f k s a = some (s, lens a, ((sumN (nats (manB s a)) : Nat) : Int), 0) := by
  obtain ⟨l1, l16, lT⟩ := h.len
  have a8 : asked 8 = 8 := by decide
  have hf : fitsB (lens a) = true := h.f
  have hlen : (lens a).length = a.length := List.length_map _
  unfold scullerref12_Of.f
  rw [rright_eq a (by omega) k (by omega) (by omega), Option.bind_some, if_pos hf, rsizes_eq a (by omega) k (by omega), Option.bind_some, ref_put_eq k (by omega) _ _ hs.1 hs.2, Option.bind_some, a8]
  have := rof_l0 a h s (putL s 8) (putL_bytes _ _) (putL_length _ _) 0 (lens a).length k 0 (by omega) (by omega)
  simpa [twos, manB] using this
end Go.Proofs.Ytliohoalackhiaa.T
namespace Go.Proofs.Ytliohoalackhiaa.T
set_option linter.unusedVariables false
open Go.RowKit Go.Proofs.YtliohoalackhiaaW.PrintWords Go.Proofs.YtliohoalackhiaaW.PrintLast Go.Proofs.YtliohoalackhiaaW.PrintMore Go.Proofs.Ytliohoalackhiaa.Num Go.Proofs.Ytliohoalackhiaa.CrcN
theorem tokG_l0 (c : List Int) (hcb : Bytes c) (hcl : c.length ≤ 140737488351232) (x : Int) (ss : List Int) (y : Int) : ∀ (d k i : Nat) (kn : List Int), i + d = c.length → d + 30 < k → Bytes kn → kn.length = (chunksN ss + 7) / 8 → (∀ j, chunksN ss ≤ j → B kn j = false) →
    ∃ r, scullerlaw14_Token.l0 k c kn (i : Int) x ss y = some (x, ss, y, r) ∧ Bytes r ∧ r.length = (chunksN ss + 7) / 8 ∧ ∀ j, chunksN ss ≤ j → B r j = false := by
  have hc5 := chunksN_le ss
  intro d
  induction d with
  | zero =>
    intro k i kn hi hk hb hl hB
    obtain ⟨k, rfl⟩ : ∃ q, k = q + 1 := ⟨k - 1, by omega⟩
    rw [scullerlaw14_Token.l0, if_neg (by omega)]
    exact ⟨kn, rfl, hb, hl, hB⟩
  | succ d ih =>
    intro k i kn hi hk hb hl hB
    obtain ⟨k, rfl⟩ : ∃ q, k = q + 1 := ⟨k - 1, by omega⟩
    have hil : i < c.length := by omega
    have hx : 0 ≤ rd c (i : Int) ∧ rd c (i : Int) ≤ 255 := by
      unfold rd
      rw [Int.toNat_natCast, List.getD_eq_getElem?_getD, List.getElem?_eq_getElem hil]
      exact hcb _ (List.getElem_mem hil)
    obtain ⟨m, hm⟩ : ∃ m : Nat, rd c (i : Int) = (m : Int) := ⟨(rd c (i : Int)).toNat, by omega⟩
    rw [scullerlaw14_Token.l0, if_pos (by omega), if_pos (by omega), rchunks_eq x ss y k (by omega), Option.bind_some, hm, w64 (x := (m : Int)) (by omega) (by omega), w64 (x := (i : Int) + 1) (by omega) (by omega), show (i : Int) + 1 = ((i + 1 : Nat) : Int) by omega]
    by_cases h : (m : Int) < (chunksN ss : Int)
    · rw [if_pos h, refset_nat hb (by omega) (by omega) k (by omega), Option.bind_some]
      refine ih k (i + 1) _ (by omega) (by omega) (setB_bytes hb m) (by rw [setB_length]; exact hl) (fun j hj => ?_)
      rw [B_set, hB j hj, decide_eq_false (by omega)]; rfl
    · rw [if_neg h]
      exact ih k (i + 1) kn (by omega) (by omega) hb hl hB
theorem tokG (x : Int) (hx : 0 ≤ x ∧ x ≤ 18446744073709551615) (c : List Int) (hcb : Bytes c) (hcl : c.length ≤ 140737488351232) (n m : Int) (hn : 0 ≤ n ∧ n ≤ 255) (hm : 0 ≤ m ∧ m ≤ 255) (k : Nat) (hk : c.length + 500000 < k) :
    ∃ ss y kn, scullerlaw14_Token.f k x c n m = some (x, ss, y, kn) ∧ TokOK ss kn ∧ Bytes kn ∧ (0 ≤ y ∧ y ≤ 4294967295) := by
  obtain ⟨a, ha, hA⟩ := arena12 c n m hn hm hcb k (by omega)
  have hc5 := chunksN_le (lens a)
  obtain ⟨q, hq, hq2, _, hmk⟩ := make_any (chunksN (lens a) : Int)
  have hqe : q = chunksN (lens a) := by
    have := clamp_self (n := chunksN (lens a)) (by omega)
    rw [this] at hq2; omega
  subst hqe
  have hs := sumN_lt (nats (manB x a)) (nats_lt (manB_bytes x a))
  unfold scullerlaw14_Token.f
  rw [ha, Option.bind_some, rof_eq a hA x hx k (by omega), Option.bind_some]
  dsimp only
  rw [rchunks_eq x (lens a) _ k (by omega), Option.bind_some, hmk k (by omega), Option.bind_some]
  obtain ⟨r, e, hb, hl, hB⟩ := tokG_l0 c hcb hcl x (lens a) ((sumN (nats (manB x a)) : Nat) : Int) c.length k 0 (List.replicate ((chunksN (lens a) + 7) / 8) 0) (by omega) (by omega) (Bytes.zeros _) (by simp) (fun j _ => B_zeros _ _)
  exact ⟨lens a, _, r, e, ⟨hA.f, hl, hB⟩, hb, by omega⟩
end Go.Proofs.Ytliohoalackhiaa.T
