/- ArenaCuts: Cut of any sizes and bytes, and of choices, is what the chapter says: for all of them. Conditions: none. -/
import Derived.Test.YtcjicfpdmegckaaAx18
import Derived.Test.YtcjicfpdmegckaaAx17
import Derived.Test.YtcjicfpdmegckaaAABB
import Derived.Test.YtcjicfpdmegckaaAACC
import Derived.Test.YtcjicfpdmegckaaAAAre
namespace Go.Proofs.Ytcjicfpdmegckaa.Pure
open Go.RowKit Go.Proofs.Ytcjicfpdmegckaa.A Go.Proofs.YtcjicfpdmegckaaW.PrintWords Go.Proofs.YtcjicfpdmegckaaW.PrintLast Go.Proofs.YtcjicfpdmegckaaW.PrintMore Go.Proofs.Ytcjicfpdmegckaa.Num Go.Proofs.Ytcjicfpdmegckaa.CrcN

theorem cutL_len : ∀ (s : List Int) (b : List Int), (cutL s b).length = s.length ∧ ∀ t ∈ cutL s b, ∃ x ∈ s, t.length = x.toNat := by
  intro s
  induction s with
  | nil => intro b; exact ⟨rfl, fun t ht => by cases ht⟩
  | cons x t ih =>
    intro b
    obtain ⟨h1, h2⟩ := ih (b.drop (8 * x.toNat))
    refine ⟨by simp [cutL, h1], fun z hz => ?_⟩
    rcases List.mem_cons.1 hz with rfl | hz
    · exact ⟨x, List.mem_cons_self, wordsL_length _ _⟩
    · obtain ⟨y, hy, e⟩ := h2 z hz
      exact ⟨y, List.mem_cons_of_mem _ hy, e⟩
theorem cutF_bd (s b : List Int) : (cutF s b).1.length ≤ 16 ∧ (∀ t ∈ (cutF s b).1, t.length ≤ 4096) ∧ 0 ≤ (cutF s b).2 ∧ (cutF s b).2 ≤ 10 := by
  unfold cutF
  by_cases hf : fitsB s = true
  · rw [if_pos hf]
    by_cases h : (b.length : Int) = 8 * sumI s
    · rw [if_pos h]
      obtain ⟨h1, h2⟩ := cutL_len s b
      obtain ⟨_, h16, _⟩ := (fitsB_iff s).1 hf
      refine ⟨by dsimp only; omega, fun t ht => ?_, by simp, by simp⟩
      obtain ⟨x, hx, e⟩ := h2 t ht
      have := fits_mem hf x hx
      omega
    · rw [if_neg h]; exact ⟨by simp, fun t ht => (by simp at ht), by simp, by simp⟩
  · rw [if_neg hf]; exact ⟨by simp, fun t ht => (by simp at ht), by simp, by simp⟩
theorem cuts_true (s : List Int) {b : List Int} (hB : Bytes b) (hl : b.length < 140737488355328) (k : Nat) (hk : 80000 < k) : scullerlaw07_cuts.f k s b = some true := by
  obtain ⟨h1, h2, h3, h4⟩ := cutF_bd s b
  have hm : (cutF s b).1.length * (4096 + 3) ≤ 16 * (4096 + 3) := Nat.mul_le_mul_right _ h1
  unfold scullerlaw07_cuts.f
  rw [cut_eq s b hB hl k (by omega), Option.bind_some, rcut_eq s b hB hl k (by omega), Option.bind_some, rsame_eq _ _ (by omega) 4096 (by omega) h2 k (by omega), Option.bind_some, if_pos (by simp), w64 (by omega) (by omega)]
  simp
theorem ArenaCuts : scullerlaw07_ArenaCuts.Pure := by
  intro s b c n _ _ _ _ hbl hb _ _ hc hn
  have hB := Bytes.of_wf hb
  have hcb := Bytes.of_wf hc
  have hn := bounds_u8 hn
  obtain ⟨k, hk⟩ : ∃ k : Nat, 100000 < k := ⟨100001, by omega⟩
  refine ⟨k + 1, ?_⟩
  have base : scullerlaw07_ArenaCuts.j0 (k + 1) s b c n false = some true := by
    obtain ⟨a, ea, hA, hal⟩ := arena07 c n hn hcb k (by omega)
    have hok := (hA.ain (by omega) (by omega)).ok (by omega) (by omega)
    obtain ⟨l1, l16, l40⟩ := hok.len
    have e1 := rbytes_eq a hok.u (by omega) (by omega) k (by omega)
    have e2 := rsizes_eq a (by omega) k (by omega)
    have hwl := wbytes_length a.flatten
    have m0 := Int.emod_nonneg n (show (9 : Int) ≠ 0 by omega)
    have m1 := Int.emod_lt_of_pos n (show (9 : Int) > 0 by omega)
    have hpos : 8 ≤ (wbytes a.flatten).length := by
      obtain ⟨_, _, h1, h0, _⟩ := (fitsB_iff _).1 hok.f
      have := flat_len a
      have hsum := (mem_le_sum (lens a) (lens_pos a)).2 ((lens a).getD 0 0) (by
        rw [List.getD_eq_getElem?_getD, List.getElem?_eq_getElem (show 0 < (lens a).length by simp only [lens, List.length_map]; omega)]; exact List.getElem_mem _)
      have e : lens a = a.map fun s => (s.length : Int) := rfl
      rw [← e] at h1
      omega
    have hle : Int.tmod n 9 ≤ 8 ∧ 0 ≤ Int.tmod n 9 := by rw [tmodn hn.1]; omega
    rw [scullerlaw07_ArenaCuts.j0, if_neg (by simp), ea, Option.bind_some, e1, Option.bind_some, cuts_true s hB (by omega) k (by omega), Option.bind_some, if_pos rfl, e2, Option.bind_some, cuts_true _ (wbytes_bytes _) (by omega) k (by omega), Option.bind_some, if_pos rfl, Option.bind_some, cuts_true _ hB (by omega) k (by omega), Option.bind_some, if_pos rfl,
      cuts_true _ (wbytes_bytes _) (by omega) k (by omega), Option.bind_some, if_pos rfl, Option.bind_some, w64 (x := Int.tmod n 9) (by omega) (by omega), w64 (by omega) (by omega), if_pos (by omega), if_pos (by omega), cuts_true _ ((wbytes_bytes _).take _) (by rw [List.length_take]; omega) k (by omega), Option.bind_some]
  unfold scullerlaw07_ArenaCuts.f
  by_cases h : (s.length : Int) > 40
  · rw [if_pos h, scullerlaw07_ArenaCuts.j0, if_pos rfl, known07_eq k (by omega)]; rfl
  · rw [if_neg h]
    by_cases h2 : (b.length : Int) > 600
    · rw [if_pos h2, scullerlaw07_ArenaCuts.j0, if_pos rfl, known07_eq k (by omega)]; rfl
    · rw [if_neg h2, known07_eq (k + 1) (by omega), Option.bind_some]
      exact base
end Go.Proofs.Ytcjicfpdmegckaa.Pure
