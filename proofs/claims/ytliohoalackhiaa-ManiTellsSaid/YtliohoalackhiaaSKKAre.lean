/- What the arenas made of choices are like. Conditions: those in each theorem. -/
/- What the greater arenas made of choices are like. Conditions: those in each theorem. -/
import Derived.Test.YtliohoalackhiaaSKx8
import Derived.Test.YtliohoalackhiaaSKKFit
import Derived.Test.YtliohoalackhiaaSCrcN
import Derived.Test.YtliohoalackhiaaSKKBase
import Derived.Test.YtliohoalackhiaaSKx9
namespace Go.Proofs.Ytliohoalackhiaa.K
set_option linter.unusedVariables false
open Go.RowKit Go.Proofs.YtliohoalackhiaaW.PrintWords Go.Proofs.YtliohoalackhiaaW.PrintLast Go.Proofs.YtliohoalackhiaaW.PrintMore Go.Proofs.Ytliohoalackhiaa.Num Go.Proofs.Ytliohoalackhiaa.CrcN
/-- words -/
def U64s (l : List Int) : Prop := ∀ x ∈ l, 0 ≤ x ∧ x ≤ 18446744073709551615
theorem u64_bd (x : Int) : 0 ≤ IntKind.u64.wrap x ∧ IntKind.u64.wrap x ≤ 18446744073709551615 := by rw [u64w]; omega
/-- arenas that may be: every segment of words; the sizes fit -/
structure Aok (a : List (List Int)) : Prop where
  u : ∀ s ∈ a, U64s s
  f : fitsB (a.map fun s => (s.length : Int)) = true
/-- an arena on the way: so many segments, each of at most 13 words, the first of at least one -/
structure Amid (a : List (List Int)) : Prop where
  u : ∀ s ∈ a, U64s s
  l : ∀ s ∈ a, s.length ≤ 13
  h : ∀ s, a.head? = some s → 1 ≤ s.length
theorem seg_loop (c : List Int) (n : Int) (a : List (List Int)) (i : Nat) (sz : Nat) (hsz : sz ≤ 13) (ha : a.length ≤ 5) (Q : Option (List (List Int)) → Prop) (k0 : Nat) (m0 : Int) (hm0 : 0 ≤ m0) (hm1 : m0 ≤ 1000)
    (hQ : ∀ (k : Nat) (seg : List Int) (kk : Int), seg.length = sz → U64s seg → 0 ≤ kk → kk ≤ m0 → k0 ≤ k → Q (scullerlaw07_Arena.l0 k c n (a ++ [seg]) kk (wrap64 ((i : Int) + 1)))) : ∀ (d k j : Nat) (seg : List Int) (kk : Int), j + d = sz → seg.length = j → U64s seg → 0 ≤ kk → kk + d ≤ m0 → k0 + d < k →
    Q (scullerlaw07_Arena.l1 k c n a kk (i : Int) seg (sz : Int) (j : Int)) := by
  intro d
  induction d with
  | zero =>
    intro k j seg kk hj hl hu h0 h1 hk
    obtain ⟨k, rfl⟩ : ∃ q, k = q + 1 := ⟨k - 1, by omega⟩
    rw [scullerlaw07_Arena.l1, if_neg (by omega), if_pos (by omega)]
    exact hQ k seg kk (by omega) hu h0 (by omega) (by omega)
  | succ d ih =>
    intro k j seg kk hj hl hu h0 h1 hk
    obtain ⟨k, rfl⟩ : ∃ q, k = q + 1 := ⟨k - 1, by omega⟩
    have step : ∀ x : Int, (0 ≤ x ∧ x ≤ 18446744073709551615) → Q (scullerlaw07_Arena.l1 k c n a (wrap64 (kk + 1)) (i : Int) (seg ++ [x]) (sz : Int) (wrap64 ((j : Int) + 1))) := by
      intro x hx
      rw [w64 (x := kk + 1) (by omega) (by omega), w64 (x := (j : Int) + 1) (by omega) (by omega)]
      have := ih k (j + 1) (seg ++ [x]) (kk + 1) (by omega) (by rw [List.length_append, hl]; rfl) (fun z hz => by
        rcases List.mem_append.1 hz with hz | hz
        · exact hu z hz
        · simp at hz; omega) (by omega) (by omega) (by omega)
      rw [show ((j + 1 : Nat) : Int) = (j : Int) + 1 by omega] at this
      exact this
    rw [scullerlaw07_Arena.l1, if_pos (by omega)]
    by_cases hc : (c.length : Int) > 0
    · have hm := Int.emod_nonneg kk (show (c.length : Int) ≠ 0 by omega)
      have hm2 := Int.emod_lt_of_pos kk (show (c.length : Int) > 0 by omega)
      rw [if_pos hc, if_neg (by omega), tmodn h0, if_pos hm, if_pos hm2, if_pos (by omega)]
      exact step _ (u64_bd _)
    · rw [if_neg hc, if_pos (by omega)]
      exact step _ (u64_bd _)
theorem Amid.snoc {a : List (List Int)} (h : Amid a) {s : List Int} (hu : U64s s) (hl : s.length ≤ 13) (h1 : a = [] → 1 ≤ s.length) : Amid (a ++ [s]) := by
  refine ⟨fun t ht => ?_, fun t ht => ?_, fun t ht => ?_⟩
  · rcases List.mem_append.1 ht with ht | ht
    · exact h.u t ht
    · simp at ht; subst ht; exact hu
  · rcases List.mem_append.1 ht with ht | ht
    · exact h.l t ht
    · simp at ht; subst ht; exact hl
  · cases a with
    | nil => simp at ht; subst ht; exact h1 rfl
    | cons b r => simp at ht; subst ht; exact h.h _ rfl
theorem arena_loop (c : List Int) (n : Int) (hn : 0 ≤ n ∧ n ≤ 255) (hcb : Bytes c) : ∀ (d k i : Nat) (a : List (List Int)) (kk : Int), i + d = 1 + (n % 5).toNat → a.length = i → Amid a → 0 ≤ kk → kk ≤ 14 * i → 20 * d < k →
    ∃ r, scullerlaw07_Arena.l0 k c n a kk (i : Int) = some r ∧ Amid r ∧ r.length = 1 + (n % 5).toNat := by
  have hw : wrap64 (1 + wrap64 (Int.tmod n 5)) = ((1 + (n % 5).toNat : Nat) : Int) := by
    have h0 := Int.emod_nonneg n (show (5 : Int) ≠ 0 by decide)
    have h1 := Int.emod_lt_of_pos n (show (5 : Int) > 0 by decide)
    rw [tmodn hn.1, w64 (x := n % 5) (by omega) (by omega), w64 (by omega) (by omega)]; omega
  have h5 : (n % 5).toNat ≤ 4 := by omega
  intro d
  induction d with
  | zero =>
    intro k i a kk hi hl hA h0 h1 hk
    obtain ⟨k, rfl⟩ : ∃ q, k = q + 1 := ⟨k - 1, by omega⟩
    rw [scullerlaw07_Arena.l0, hw, if_neg (by omega)]
    exact ⟨a, rfl, hA, by omega⟩
  | succ d ih =>
    intro k i a kk hi hl hA h0 h1 hk
    obtain ⟨k, rfl⟩ : ∃ q, k = q + 1 + 1 + 1 := ⟨k - 3, by omega⟩
    obtain ⟨sz, hsz, hs1, e⟩ : ∃ sz : Nat, sz ≤ 13 ∧ (i = 0 → 1 ≤ sz) ∧ scullerlaw07_Arena.l0 (k + 1 + 1 + 1) c n a kk (i : Int) = scullerlaw07_Arena.l1 k c n a kk (i : Int) [] (sz : Int) 0 := by
      have key : ∀ s0 : Nat, s0 ≤ 12 → ∃ sz : Nat, sz ≤ 13 ∧ (i = 0 → 1 ≤ sz) ∧ scullerlaw07_Arena.j1 (k + 1 + 1) c n a kk (i : Int) [] (s0 : Int) = scullerlaw07_Arena.l1 k c n a kk (i : Int) [] (sz : Int) 0 := by
        intro s0 hs0
        by_cases hi0 : i = 0
        · refine ⟨s0 + 1, by omega, fun _ => by omega, ?_⟩
          rw [scullerlaw07_Arena.j1, if_pos (by omega), w64 (x := (s0 : Int) + 1) (by omega) (by omega), scullerlaw07_Arena.j2]; rfl
        · refine ⟨s0, by omega, fun h => absurd h hi0, ?_⟩
          rw [scullerlaw07_Arena.j1, if_neg (by omega), scullerlaw07_Arena.j2]
      rw [scullerlaw07_Arena.l0, hw, if_pos (by omega)]
      by_cases hc : (i : Int) < (c.length : Int)
      · have hil : i < c.length := by omega
        have hx : 0 ≤ rd c (i : Int) ∧ rd c (i : Int) ≤ 255 := by
          unfold rd
          rw [Int.toNat_natCast, List.getD_eq_getElem?_getD, List.getElem?_eq_getElem hil]
          exact hcb _ (List.getElem_mem hil)
        have m0 := Int.emod_nonneg (rd c (i : Int)) (show (12 : Int) ≠ 0 by decide)
        have m1 := Int.emod_lt_of_pos (rd c (i : Int)) (show (12 : Int) > 0 by decide)
        rw [if_pos hc, if_pos (by omega), tmodn hx.1, w64 (x := rd c (i : Int) % 12) (by omega) (by omega)]
        have := key (rd c (i : Int) % 12).toNat (by omega)
        rw [Int.toNat_of_nonneg m0] at this
        exact this
      · rw [if_neg hc]
        exact key 1 (by omega)
    rw [e]
    refine seg_loop c n a i sz hsz (by omega) (fun o => ∃ r, o = some r ∧ Amid r ∧ r.length = 1 + (n % 5).toNat) (20 * d + 1) (14 * (i + 1 : Nat)) (by omega) (by omega) ?_ sz k 0 [] kk (by omega) rfl (fun x hx => by cases hx) h0 (by omega) (by omega)
    intro k' seg kk' hsl hsu g0 g1 hk'
    rw [w64 (x := (i : Int) + 1) (by omega) (by omega)]
    have := ih k' (i + 1) (a ++ [seg]) kk' (by omega) (by rw [List.length_append, hl]; rfl) (hA.snoc hsu (by omega) (fun ha => by subst ha; simp at hl; have := hs1 hl.symm; omega)) g0 g1 (by omega)
    rw [show ((i + 1 : Nat) : Int) = (i : Int) + 1 by omega] at this
    exact this
theorem arena07 (c : List Int) (n : Int) (hn : 0 ≤ n ∧ n ≤ 255) (hcb : Bytes c) (k : Nat) (hk : 100 < k) : ∃ r, scullerlaw07_Arena.f k c n = some r ∧ Amid r ∧ r.length = 1 + (n % 5).toNat := by
  unfold scullerlaw07_Arena.f
  exact arena_loop c n hn hcb (1 + (n % 5).toNat) k 0 [] 0 (by omega) rfl ⟨(fun s hs => by cases hs), (fun s hs => by cases hs), (fun s hs => by cases hs)⟩ (Int.le_refl _) (by omega) (by omega)
/-- an arena of at most L segments and B words -/
structure Ain (a : List (List Int)) (L : Nat) (B : Int) : Prop where
  u : ∀ s ∈ a, U64s s
  h : 1 ≤ (lens a).getD 0 0
  p : 1 ≤ a.length
  l : a.length ≤ L
  w : sumI (lens a) ≤ B
theorem lens_pos (a : List (List Int)) : ∀ x ∈ lens a, 0 ≤ x := by
  intro x hx
  obtain ⟨s, _, rfl⟩ := List.mem_map.1 hx
  omega
theorem Ain.ok {a : List (List Int)} {L : Nat} {B : Int} (h : Ain a L B) (hL : L ≤ 16) (hB : B ≤ 4096) : Aok a :=
  ⟨h.u, (fitsB_iff _).2 ⟨by have := h.p; simpa using this, by have := h.l; simp; omega, h.h, lens_pos a, by have := h.w; exact Int.le_trans this hB⟩⟩
theorem sum_le13 : ∀ (a : List (List Int)), (∀ s ∈ a, s.length ≤ 13) → sumI (lens a) ≤ 13 * a.length := by
  intro a
  induction a with
  | nil => intro _; simp [lens, sumI]
  | cons s t ih =>
    intro h
    have h1 := h s List.mem_cons_self
    have h2 := ih (fun z hz => h z (List.mem_cons_of_mem _ hz))
    simp only [lens, List.map_cons, sumI, List.length_cons] at h2 ⊢
    omega
theorem Amid.ain {a : List (List Int)} (h : Amid a) (hp : 1 ≤ a.length) (hl : a.length ≤ 5) : Ain a 5 65 := by
  refine ⟨h.u, ?_, hp, hl, by have := sum_le13 a h.l; omega⟩
  cases a with
  | nil => simp at hp
  | cons s t => have := h.h s rfl; simp [lens]; omega
theorem Ain.grow {p : List (List Int)} {s : List Int} {L : Nat} {B : Int} (h : Ain (p ++ [s]) L B) {x : Int} (hx : 0 ≤ x ∧ x ≤ 18446744073709551615) : Ain (p ++ [s ++ [x]]) L (B + 1) := by
  have hh := h.h
  have hw := h.w
  rw [lens_append] at hh hw
  refine ⟨fun t ht => ?_, ?_, by simp, by have := h.l; simpa using this, ?_⟩
  · rcases List.mem_append.1 ht with ht | ht
    · exact h.u t (List.mem_append_left _ ht)
    · simp at ht; subst ht
      intro z hz
      rcases List.mem_append.1 hz with hz | hz
      · exact h.u s (by simp) z hz
      · simp at hz; omega
  · rw [lens_append]
    cases p with
    | nil => simp [lens] at hh ⊢; omega
    | cons q r => simpa [lens] using hh
  · rw [lens_append, sumI_append]
    rw [sumI_append] at hw
    simp [lens, sumI] at hw ⊢
    omega
theorem Ain.more {a : List (List Int)} {L : Nat} {B : Int} (h : Ain a L B) (m : Nat) : Ain (a ++ [List.replicate m 0]) (L + 1) (B + m) := by
  refine ⟨fun t ht => ?_, ?_, by simp, by have := h.l; simpa using this, ?_⟩
  · rcases List.mem_append.1 ht with ht | ht
    · exact h.u t ht
    · simp at ht; subst ht
      intro z hz
      have := List.eq_of_mem_replicate hz; omega
  · rw [lens_append]
    have hh := h.h
    have hp := h.p
    cases a with
    | nil => simp at hp
    | cons q r => simpa [lens] using hh
  · have hw := h.w
    rw [lens_append, sumI_append]
    simp [lens, sumI] at hw ⊢
    omega
theorem snoc_of {a : List (List Int)} (h : 1 ≤ a.length) : ∃ p s, a = p ++ [s] := by
  rcases List.eq_nil_or_concat a with rfl | ⟨p, s, rfl⟩
  · simp at h
  · exact ⟨p, s, List.concat_eq_append⟩
end Go.Proofs.Ytliohoalackhiaa.K
namespace Go.Proofs.Ytliohoalackhiaa.K
set_option linter.unusedVariables false
open Go.RowKit Go.Proofs.YtliohoalackhiaaW.PrintWords Go.Proofs.YtliohoalackhiaaW.PrintLast Go.Proofs.YtliohoalackhiaaW.PrintMore Go.Proofs.Ytliohoalackhiaa.Num Go.Proofs.Ytliohoalackhiaa.CrcN
theorem arena12_l1 (m : Int) (hm : 0 ≤ m ∧ m ≤ 255) : ∀ (d k i : Nat) (a : List (List Int)) (L : Nat) (B : Int), i + d = (m % 7).toNat → L ≤ 5 + i → B ≤ 65 + 39 + 7 * i → Ain a L B → d < k → ∃ r, scullerlaw12_Arena.l1 k m a (i : Int) = some r ∧ Aok r := by
  have h0 := Int.emod_nonneg m (show (7 : Int) ≠ 0 by decide)
  have h1 := Int.emod_lt_of_pos m (show (7 : Int) > 0 by decide)
  have hw : wrap64 (Int.tmod m 7) = m % 7 := by rw [tmodn hm.1, w64 (by omega) (by omega)]
  intro d
  induction d with
  | zero =>
    intro k i a L B hi hL hB hA hk
    obtain ⟨k, rfl⟩ : ∃ q, k = q + 1 := ⟨k - 1, by omega⟩
    rw [scullerlaw12_Arena.l1, hw, if_neg (by omega)]
    exact ⟨a, rfl, hA.ok (by omega) (by omega)⟩
  | succ d ih =>
    intro k i a L B hi hL hB hA hk
    obtain ⟨k, rfl⟩ : ∃ q, k = q + 1 := ⟨k - 1, by omega⟩
    have hl := hA.l
    rw [scullerlaw12_Arena.l1, hw, if_pos (by omega), if_pos (by omega), if_pos (by omega), if_pos (by omega), w64 (x := (i : Int) + 1) (by omega) (by omega), Int.toNat_natCast]
    have := ih k (i + 1) _ (L + 1) (B + i) (by omega) (by omega) (by omega) (hA.more i) (by omega)
    rw [show ((i + 1 : Nat) : Int) = (i : Int) + 1 by omega] at this
    exact this
theorem arena12_l0 (n m : Int) (hm : 0 ≤ m ∧ m ≤ 255) : ∀ (d k i : Nat) (a : List (List Int)) (B : Int), i + d = (m % 40).toNat → B ≤ 65 + i → Ain a 5 B → d + 10 < k → ∃ r, scullerlaw12_Arena.l0 k n m a (i : Int) = some r ∧ Aok r := by
  have h0 := Int.emod_nonneg m (show (40 : Int) ≠ 0 by decide)
  have h1 := Int.emod_lt_of_pos m (show (40 : Int) > 0 by decide)
  have hw : wrap64 (Int.tmod m 40) = m % 40 := by rw [tmodn hm.1, w64 (by omega) (by omega)]
  intro d
  induction d with
  | zero =>
    intro k i a B hi hB hA hk
    obtain ⟨k, rfl⟩ : ∃ q, k = q + 1 := ⟨k - 1, by omega⟩
    rw [scullerlaw12_Arena.l0, hw, if_neg (by omega)]
    exact arena12_l1 m hm (m % 7).toNat k 0 a 5 B (by omega) (by omega) (by omega) hA (by omega)
  | succ d ih =>
    intro k i a B hi hB hA hk
    obtain ⟨k, rfl⟩ : ∃ q, k = q + 1 := ⟨k - 1, by omega⟩
    obtain ⟨p, s, rfl⟩ := snoc_of hA.p
    have hl := hA.l
    have hsl : (s.length : Int) ≤ B := by
      have h2 := (mem_le_sum (lens (p ++ [s])) (lens_pos _)).2 (s.length : Int) (List.mem_map.2 ⟨s, by simp, rfl⟩)
      exact Int.le_trans h2 hA.w
    have e1 : wrap64 (((p ++ [s]).length : Int) - 1) = (p.length : Int) := by rw [List.length_append, w64 (by simp <;> omega) (by simp at hl; simp; omega)]; simp
    have e2 : rd_L1 (p ++ [s]) (p.length : Int) = s := by
      unfold rd_L1
      rw [Int.toNat_natCast, List.getD_eq_getElem?_getD, List.getElem?_append_right (Nat.le_refl _)]; simp
    rw [scullerlaw12_Arena.l0, hw, if_pos (by omega), e1, if_pos (by omega), if_pos (by simp; omega), e2, if_pos (by omega), w64 (x := (i : Int) + 1) (by omega) (by omega), Int.toNat_natCast]
    have e3 : ∀ y : List Int, (p ++ [s]).set p.length y = p ++ [y] := by intro y; simp
    rw [e3]
    rw [show (i : Int) + 1 = ((i + 1 : Nat) : Int) by omega]
    exact ih k (i + 1) _ (B + 1) (by omega) (by omega) (hA.grow (u64_bd _)) (by omega)
theorem arena12 (c : List Int) (n m : Int) (hn : 0 ≤ n ∧ n ≤ 255) (hm : 0 ≤ m ∧ m ≤ 255) (hcb : Bytes c) (k : Nat) (hk : 100 < k) : ∃ r, scullerlaw12_Arena.f k c n m = some r ∧ Aok r := by
  obtain ⟨a, ha, hA, hl⟩ := arena07 c n hn hcb k hk
  unfold scullerlaw12_Arena.f
  rw [ha, Option.bind_some]
  have h0 := Int.emod_nonneg m (show (40 : Int) ≠ 0 by decide)
  have h1 := Int.emod_lt_of_pos m (show (40 : Int) > 0 by decide)
  have h2 := Int.emod_lt_of_pos n (show (5 : Int) > 0 by decide)
  exact arena12_l0 n m hm (m % 40).toNat k 0 a 65 (by omega) (by omega) (hA.ain (by omega) (by omega)) (by omega)
end Go.Proofs.Ytliohoalackhiaa.K
