/- What Sizes, Right and Bytes of arenas compute. Conditions: those in each theorem. -/
/- Of what a manifest's sum is. Conditions: none. -/
/- What mani.Of, Pages, Size, Same and Matches compute; the chapter's example holds. Conditions: those in each theorem. -/
/- What mani.Chunk, mani.Page and mani.Join compute: pieces, and their rows one behind the other. Conditions: those in each theorem. -/
import Derived.Test.YtliohoalackhiaaPNx2
import Derived.Test.YtliohoalackhiaaPNx3
import Derived.Test.YtliohoalackhiaaPNgABytes
import Derived.Test.YtliohoalackhiaaPNNFit
import Derived.Test.YtliohoalackhiaaPNNBase
import Derived.Test.YtliohoalackhiaaPNgManiOf
import Derived.Test.YtliohoalackhiaaPNx8
import Derived.Test.YtliohoalackhiaaPNx7
import Derived.Test.YtliohoalackhiaaPNx6
import Derived.Test.YtliohoalackhiaaPNx14
import Derived.Test.YtliohoalackhiaaPNx18
import Derived.Test.YtliohoalackhiaaPNgPieceI
import Derived.Test.YtliohoalackhiaaPNgConcatI
namespace Go.Proofs.Ytliohoalackhiaa.N
set_option linter.unusedVariables false
open Go.RowKit Go.Proofs.YtliohoalackhiaaW.PrintWords Go.Proofs.YtliohoalackhiaaW.PrintLast Go.Proofs.YtliohoalackhiaaW.PrintMore Go.Proofs.Ytliohoalackhiaa.Num Go.Proofs.Ytliohoalackhiaa.CrcN
theorem lens_take_rd {a : List (List Int)} {i : Nat} (h : i < a.length) : lens (a.take (i + 1)) = lens (a.take i) ++ [((rd_L1 a (i : Int)).length : Int)] := by
  unfold rd_L1
  rw [List.take_succ_eq_append_getElem h, lens_append, Int.toNat_natCast, List.getD_eq_getElem?_getD, List.getElem?_eq_getElem h]; rfl
theorem sizes_l0 (a : List (List Int)) (hl : a.length < 17592186044416) : ∀ (d k i : Nat), i + d = a.length → d < k → arena_Sizes.l0 k (lens (a.take i)) a (a.length : Int) (i : Int) = some (lens a) := by
  intro d
  induction d with
  | zero =>
    intro k i hi hk
    obtain ⟨k, rfl⟩ : ∃ j, k = j + 1 := ⟨k - 1, by omega⟩
    rw [arena_Sizes.l0, if_neg (by omega), List.take_of_length_le (by omega)]
  | succ d ih =>
    intro k i hi hk
    obtain ⟨k, rfl⟩ : ∃ j, k = j + 1 := ⟨k - 1, by omega⟩
    have hll : (lens (a.take i)).length < 17592186044416 := by simp only [lens, List.length_map, List.length_take]; omega
    rw [arena_Sizes.l0, if_pos (by omega), if_pos (by omega), if_pos (by omega), if_pos (by omega), ← lens_take_rd (by omega), w64 (x := (i : Int) + 1) (by omega) (by omega)]
    exact ih k (i + 1) (by omega) (by omega)
theorem sizes_eq (a : List (List Int)) (hl : a.length < 17592186044416) (k : Nat) (hk : a.length < k) : arena_Sizes.f k a = some (lens a) := by
  unfold arena_Sizes.f
  have := sizes_l0 a hl a.length k 0 (by omega) hk
  simpa [lens] using this
theorem aright_eq (a : List (List Int)) (hl : a.length < 17592186044416) (k : Nat) (hk : a.length < k) (hk2 : 20 < k) : arena_Right.f k a = some (fitsB (lens a)) := by
  unfold arena_Right.f
  rw [sizes_eq a hl k hk, Option.bind_some, fits_eq _ k hk2, Option.bind_some]
theorem put8_eq (x : Int) : put8 x = putL x 8 := by
  have a8 : asked 8 = 8 := by decide
  unfold put8
  rw [put_eq 9 (by omega), a8]; rfl
theorem flat_wbytes (l : List Int) : l.flatMap put8 = wbytes l := by
  induction l with
  | nil => rfl
  | cons x t ih => rw [List.flatMap_cons, ih, put8_eq]; rfl
theorem abytes_eq {a : List (List Int)} (h : a.flatten.length < 8796093022208) : arena_Bytes.f a = some (wbytes a.flatten) := by
  unfold arena_Bytes.f; rw [if_pos h, flat_wbytes]
end Go.Proofs.Ytliohoalackhiaa.N
namespace Go.Proofs.Ytliohoalackhiaa.N
set_option linter.unusedVariables false
open Go.RowKit Go.Proofs.YtliohoalackhiaaW.PrintWords Go.Proofs.YtliohoalackhiaaW.PrintLast Go.Proofs.YtliohoalackhiaaW.PrintMore Go.Proofs.Ytliohoalackhiaa.Num Go.Proofs.Ytliohoalackhiaa.CrcN
/-- of what a manifest's sum is -/
def manB (s : Int) (a : List (List Int)) : List Int := (putL s 8 ++ twos (lens a)) ++ wbytes a.flatten
theorem manB_bytes (s : Int) (a : List (List Int)) : Bytes (manB s a) := ((putL_bytes _ _).append (twos_bytes _)).append (wbytes_bytes _)
end Go.Proofs.Ytliohoalackhiaa.N
namespace Go.Proofs.Ytliohoalackhiaa.N
set_option linter.unusedVariables false
open Go.RowKit Go.Proofs.YtliohoalackhiaaW.PrintWords Go.Proofs.YtliohoalackhiaaW.PrintLast Go.Proofs.YtliohoalackhiaaW.PrintMore Go.Proofs.Ytliohoalackhiaa.Num Go.Proofs.Ytliohoalackhiaa.CrcN
theorem more_append (l1 l2 : List Int) (h1 : Bytes l1) (h2 : Bytes l2) : moreI tabI (moreI tabI 0 l1) l2 = moreI tabI 0 (l1 ++ l2) := by
  have n1 := nats_lt h1
  have n2 := nats_lt h2
  have e1 := more_nat 0 (by decide) (nats l1) n1
  have e3 := more_nat 0 (by decide) (nats l1 ++ nats l2) (fun x hx => (List.mem_append.1 hx).elim (n1 x) (n2 x))
  rw [Nat.xor_zero] at e1 e3
  have hl := F_lt top_lt (nats l1) n1
  have e2 := more_nat (top ^^^ F top (nats l1)) (Nat.xor_lt_two_pow (n := 32) top_lt hl) (nats l2) n2
  rw [ints_nats h1] at e1
  rw [ints_nats h2] at e2
  rw [ints_append, ints_nats h1, ints_nats h2, F_append] at e3
  rw [show (0 : Int) = ((0 : Nat) : Int) from rfl, e1, e3, e2, ← Nat.xor_assoc, Nat.xor_self, Nat.zero_xor]
theorem put2_eq {x : Int} (h0 : 0 ≤ x) (h1 : x ≤ 4096) : put2 x = putL x 2 := by
  have a2 : asked 2 = 2 := by decide
  unfold put2
  rw [u64id h0 (by omega), put_eq 9 (by omega), a2]; rfl
theorem more_twos (ss : List Int) (h : ∀ x ∈ ss, 0 ≤ x ∧ x ≤ 4096) : ∀ (l : List Int), Bytes l → ss.foldl (fun n x => moreI tabI n (put2 x)) (moreI tabI 0 l) = moreI tabI 0 (l ++ twos ss) := by
  induction ss with
  | nil => intro l _; simp [twos]
  | cons x t ih =>
    intro l hl
    obtain ⟨h0, h1⟩ := h x List.mem_cons_self
    rw [List.foldl_cons, put2_eq h0 h1, more_append l _ hl (putL_bytes _ _), ih (fun z hz => h z (List.mem_cons_of_mem _ hz)) _ (hl.append (putL_bytes _ _)), List.append_assoc]; rfl
theorem of_ok (s : Int) (a : List (List Int)) (h : fitsB (lens a) = true) (k : Nat) (hk : 40 < k) : mani_Of.f k s a = some (s, lens a, ((sumN (nats (manB s a)) : Nat) : Int), 0) := by
  obtain ⟨h1, h16, _, h0, hm⟩ := (fitsB_iff _).1 h
  have hl : (lens a).length = a.length := List.length_map _
  have hf := flat_len a
  have hs := sum_eq (manB s a) (manB_bytes s a)
  unfold crc_Sum.f at hs
  unfold mani_Of.f
  rw [aright_eq a (by omega) k (by omega) (by omega), Option.bind_some, if_pos h, sizes_eq a (by omega) k (by omega), Option.bind_some, abytes_eq (by omega), Option.bind_some, put8_eq, more_twos _ (fits_mem h) _ (putL_bytes _ _), more_append _ _ ((putL_bytes _ _).append (twos_bytes _)) (wbytes_bytes _)]
  have e := Option.some.inj hs
  unfold manB at e
  rw [e]; rfl
theorem ceil4 {n : Nat} (h1 : n ≤ 16) : word_Ceil.f (n : Int) 4 = some (((n + 3) / 4 : Nat) : Int) := by
  unfold word_Ceil.f
  rw [if_neg (by omega), if_neg (by omega), if_neg (by omega), if_neg (by omega), if_neg (by omega), w64 (x := (n : Int) + 4) (by omega) (by omega), w64 (x := (n : Int) + 4 - 1) (by omega) (by omega), tdivn (by omega), w64 (by omega) (by omega)]
  congr 1; omega
/-- how many pages there are -/
def pagesN (s : List Int) : Nat := if fitsB s = true then (s.length + 3) / 4 else 0
theorem pages_eq (x : Int) (s : List Int) (y : Int) (k : Nat) (hk : 20 < k) : mani_Pages.f k x s y = some (pagesN s : Int) := by
  unfold mani_Pages.f pagesN
  rw [maniRight_eq x s y k hk, Option.bind_some]
  by_cases h : fitsB s = true
  · obtain ⟨_, h16, _, _, _⟩ := (fitsB_iff s).1 h
    rw [if_pos h, if_pos h, ceil4 h16]; rfl
  · rw [if_neg h, if_neg h]; rfl
/-- how many bytes chunk i has -/
def sizeN (s : List Int) (i : Int) : Int := if i < 0 then 0 else if i ≥ (chunksN s : Int) then 0 else min 64 (8 * wordsI s - 64 * i)
theorem size_eq (x : Int) (s : List Int) (y i : Int) (k : Nat) (hk : 20 < k) : mani_Size.f k x s y i = some (sizeN s i) := by
  have hw := wordsI_bd s
  have hc := chunksN_le s
  unfold mani_Size.f sizeN
  by_cases h : i < 0
  · rw [if_pos h, if_pos h]
  · rw [if_neg h, if_neg h, chunks_eq x s y k hk, Option.bind_some]
    by_cases h2 : i ≥ (chunksN s : Int)
    · rw [if_pos h2, if_pos h2]
    · rw [if_neg h2, if_neg h2, words_eq x s y k hk, Option.bind_some, w64 (x := wordsI s * 8) (by omega) (by omega), w64 (x := i * 64) (by omega) (by omega), w64 (by omega) (by omega)]
      congr 1
      unfold mn
      split <;> omega
theorem maniSame_eq (x : Int) (ss : List Int) (y x' : Int) (ss' : List Int) (y' : Int) (hl : ss.length < 9223372036854775807) (k : Nat) (hk : ss.length < k) : mani_Same.f k x ss y x' ss' y' = some (decide (x = x' ∧ y = y' ∧ ss = ss')) := by
  unfold mani_Same.f
  by_cases h1 : x = x'
  · by_cases h2 : y = y'
    · rw [if_pos h1, if_pos h2, equalInts_eq ss ss' hl k hk, Option.bind_some]
      simp [h1, h2]
    · rw [if_pos h1, if_neg h2]; simp [h2]
  · rw [if_neg h1]; simp [h1]
theorem matches_ok (x : Int) (ss : List Int) (y : Int) (a : List (List Int)) (h : fitsB (lens a) = true) (hl : ss.length < 9223372036854775807) (k : Nat) (hk : ss.length < k) (hk2 : 40 < k) :
    mani_Matches.f k x ss y a = some (decide (y = ((sumN (nats (manB x a)) : Nat) : Int) ∧ ss = lens a)) := by
  unfold mani_Matches.f
  rw [of_ok x a h k hk2, Option.bind_some]
  dsimp only
  rw [if_pos rfl, maniSame_eq _ _ _ _ _ _ hl k hk, Option.bind_some]
  simp
theorem known12_eq (k : Nat) (hk : 60 < k) : scullerlaw12_known.f k = some true := by
  have hf : fitsB (lens [List.replicate 9 0]) = true := by decide
  have hl : lens [List.replicate 9 0] = [9] := by decide
  have hc : chunksN [9] = 2 := by decide
  have s0 : sizeN [9] 0 = 64 := by decide
  have s1 : sizeN [9] 1 = 8 := by decide
  have hp : pagesN [9] = 1 := by decide
  unfold scullerlaw12_known.f
  rw [if_pos (by omega), of_ok 5 _ hf k (by omega), Option.bind_some]
  dsimp only
  rw [if_pos rfl, hl, chunks_eq _ _ _ k (by omega), Option.bind_some, hc, if_pos (show ((2 : Nat) : Int) = 2 from rfl), size_eq _ _ _ _ k (by omega), Option.bind_some, s0, if_pos rfl, size_eq _ _ _ _ k (by omega), Option.bind_some, s1, if_pos rfl, pages_eq _ _ _ k (by omega), Option.bind_some, hp, if_pos (show ((1 : Nat) : Int) = 1 from rfl),
    matches_ok _ _ _ _ hf (by simp) k (by simp; omega) (by omega), Option.bind_some, hl]
  simp
end Go.Proofs.Ytliohoalackhiaa.N
namespace Go.Proofs.Ytliohoalackhiaa.N
set_option linter.unusedVariables false
open Go.RowKit Go.Proofs.YtliohoalackhiaaW.PrintWords Go.Proofs.YtliohoalackhiaaW.PrintLast Go.Proofs.YtliohoalackhiaaW.PrintMore Go.Proofs.Ytliohoalackhiaa.Num Go.Proofs.Ytliohoalackhiaa.CrcN
theorem page_eq (x : Int) (ss : List Int) (y i : Int) (k : Nat) (hk : 20 < k) : mani_Page.f k x ss y i = some (if fitsB ss = true then PieceI.pieceAt ss 4 i else []) := by
  unfold mani_Page.f
  rw [maniRight_eq x ss y k hk, Option.bind_some]
  by_cases h : fitsB ss = true
  · have h16 := ((fitsB_iff ss).1 h).2.1
    rw [if_pos h, if_pos h]
    unfold mani_piece_int.f
    rw [if_pos (by omega)]; rfl
  · rw [if_neg h, if_neg h]
def pagesB : Nat → List (List Int) → Bool
  | _, [] => true
  | n, p :: t => (decide (1 ≤ p.length) && decide (p.length ≤ 4) && (t.isEmpty || decide (4 ≤ p.length))) && pagesB n t
def joinF (P : List (List Int)) : List Int × Bool := if pagesB 0 P = true ∧ fitsB P.flatten = true then (P.flatten, true) else ([], false)
theorem rdP {P : List (List Int)} {i : Nat} (h : i < P.length) : P.drop i = rd_L6 P (i : Int) :: P.drop (i + 1) := by
  unfold rd_L6
  rw [Int.toNat_natCast, List.drop_eq_getElem_cons h, List.getD_eq_getElem?_getD, List.getElem?_eq_getElem h]; rfl
theorem pagesB_le : ∀ (P : List (List Int)), pagesB 0 P = true → P.flatten.length ≤ 4 * P.length
  | [], _ => by simp
  | p :: t, h => by
    rw [pagesB, Bool.and_eq_true, Bool.and_eq_true, Bool.and_eq_true, decide_eq_true_iff, decide_eq_true_iff] at h
    have := pagesB_le t h.2
    rw [List.flatten_cons, List.length_append, List.length_cons]; omega
theorem join_l0 (P : List (List Int)) (hl : P.length < 1000000) : ∀ (d k i : Nat), i + d = P.length → d + 25 < k →
    mani_Join.l0 k P P (P.length : Int) (i : Int) = if pagesB 0 (P.drop i) = true then (if P.flatten.length < 17592186044416 then (if fitsB P.flatten = true then some (P.flatten, true) else some ([], false)) else none) else some ([], false) := by
  intro d
  induction d with
  | zero =>
    intro k i hi hk
    obtain ⟨k, rfl⟩ : ∃ q, k = q + 1 := ⟨k - 1, by omega⟩
    rw [mani_Join.l0, if_neg (by omega), List.drop_of_length_le (by omega), pagesB, if_pos rfl]
    unfold slices_Concat_int_int.f
    by_cases h : P.flatten.length < 17592186044416
    · rw [if_pos h, if_pos h, Option.bind_some, fits_eq _ k (by omega), Option.bind_some]
    · rw [if_neg h, if_neg h]; rfl
  | succ d ih =>
    intro k i hi hk
    obtain ⟨k, rfl⟩ : ∃ q, k = q + 1 := ⟨k - 1, by omega⟩
    have hr := rdP (P := P) (i := i) (by omega)
    have hn := ih k (i + 1) (by omega) (by omega)
    rw [show ((i + 1 : Nat) : Int) = (i : Int) + 1 by omega] at hn
    have hd : ((P.drop (i + 1)).isEmpty = true ∧ d = 0) ∨ ((P.drop (i + 1)).isEmpty = false ∧ 0 < d) := by
      have hlen : (P.drop (i + 1)).length = d := by rw [List.length_drop]; omega
      cases hh : P.drop (i + 1) with
      | nil => rw [hh] at hlen; exact .inl ⟨rfl, by simpa using hlen.symm⟩
      | cons a b => rw [hh] at hlen; exact .inr ⟨rfl, by rw [← hlen]; simp⟩
    rw [mani_Join.l0, if_pos (by omega), if_pos (by omega), if_pos (by omega), w64 (x := (P.length : Int) - 1) (by omega) (by omega), w64 (x := (i : Int) + 1) (by omega) (by omega), hn, hr]
    generalize rd_L6 P (i : Int) = p
    generalize hrest : P.drop (i + 1) = rest at hd
    rw [pagesB]
    by_cases h1 : (p.length : Int) < 1
    · rw [if_pos h1, decide_eq_false (show ¬ 1 ≤ p.length by omega)]; simp
    rw [if_neg h1, decide_eq_true (show 1 ≤ p.length by omega)]
    by_cases h2 : (p.length : Int) > 4
    · rw [if_pos h2, decide_eq_false (show ¬ p.length ≤ 4 by omega)]; simp
    rw [if_neg h2, decide_eq_true (show p.length ≤ 4 by omega)]
    rcases hd with ⟨he, hd0⟩ | ⟨he, hd0⟩
    · rw [if_neg (by omega), he]; simp
    · rw [if_pos (by omega), he]
      by_cases h4 : (p.length : Int) < 4
      · rw [if_pos h4, decide_eq_false (show ¬ 4 ≤ p.length by omega)]; simp
      · rw [if_neg h4, decide_eq_true (show 4 ≤ p.length by omega)]; simp
theorem join_eq (P : List (List Int)) (hl : P.length < 1000000) (k : Nat) (hk : P.length + 25 < k) : mani_Join.f k P = some (joinF P) := by
  unfold mani_Join.f joinF
  have := join_l0 P hl P.length k 0 (by omega) (by omega)
  rw [show ((0 : Nat) : Int) = 0 from rfl, List.drop_zero] at this
  rw [this]
  by_cases h : pagesB 0 P = true
  · have := pagesB_le P h
    rw [if_pos h, if_pos (by omega)]
    by_cases hf : fitsB P.flatten = true
    · rw [if_pos hf, if_pos ⟨h, hf⟩]
    · rw [if_neg hf, if_neg (fun q => hf q.2)]
  · rw [if_neg h, if_neg (fun q => h q.1)]
end Go.Proofs.Ytliohoalackhiaa.N
