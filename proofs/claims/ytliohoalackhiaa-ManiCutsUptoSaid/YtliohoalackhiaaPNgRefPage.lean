/- The document's Page: a cut of a manifest's sizes, in whatever memory. -/
import Derived.Test.YtliohoalackhiaaPNx12
import Derived.Test.YtliohoalackhiaaPNgRefChunk
namespace Go.Proofs.Ytliohoalackhiaa.N
open Go.RowKit Go.Proofs.YtliohoalackhiaaW.PrintWords Go.Proofs.YtliohoalackhiaaW.PrintLast Go.Proofs.YtliohoalackhiaaW.PrintMore
attribute [local go_sem] max2_int min2_int max_two min_two
set_option linter.unusedVariables false
set_option linter.unusedSimpArgs false
/-- What the document's Page computes. -/
def scullerref12_Page.f (k : Nat) (a0_0 : Int) (l0_1 : List Int) (a0_2 : Int) (a1 : Int) : Option (List Int) :=
  (scullerref12_Pages.f k a0_0 l0_1 a0_2).bind fun n => if a1 < 0 ∨ a1 ≥ n then some [] else if 4 * a1 ≤ l0_1.length ∧ l0_1.length ≤ 1152921504606846975 then some ((l0_1.take (min (4 * a1.toNat + 4) l0_1.length)).drop (4 * a1.toNat)) else none
/-- A row that may be read wherever another one may. -/
def Part {α : Type} (d : Kd α) (A0 : Option Addr) (l0 : List α) (v : Value) (xs : List α) : Prop := ∃ A c, v = .slice A xs.length c ∧ xs.length ≤ c ∧ ∀ W', d.C W' A0 l0.length l0 → d.C W' A xs.length xs
set_option maxRecDepth 100000 in
set_option maxHeartbeats 4000000 in
theorem scullerref12_Page.calls2 (k : Nat) (a0_0 : Int) (A0_1 : Option Addr) (c0_1 : Nat) (l0_1 : List Int) (a0_2 : Int) (a1 : Int) (r : List Int) (w : World) (hr0_1 : Kd.C (Kd.int .i64) w A0_1 l0_1.length l0_1) (hc0_1 : l0_1.length ≤ c0_1) (h : scullerref12_Page.f k a0_0 l0_1 a0_2 a1 = some r) :
    Calls Try.prog 54 #[.agg #[.int .u64 a0_0, .slice A0_1 l0_1.length c0_1, .int .u32 a0_2], .int .i64 a1] w fun e w' => ∃ v0_ : Value, e = .returned (v0_) ∧ Part (Kd.int .i64) A0_1 l0_1 v0_ r ∧ Below w.heap.size w w' := by
  unfold scullerref12_Page.f at h
  obtain ⟨n, hn0, h⟩ := Option.bind_eq_some_iff.mp h
  have HR := Aside0.mk hr0_1
  have HL := Aside0.mk hc0_1
  have HPG := Aside0.mk hn0
  have H := Aside0.mk h
  clear hr0_1 hc0_1 hn0 h
  have hnil : Part (Kd.int .i64) A0_1 l0_1 (.slice none 0 0) [] := ⟨none, 0, rfl, Nat.le_refl _, fun W' _ => Kd.C_nil _ _⟩
  have HN := Aside0.mk hnil
  clear hnil
  go_enter Try.func54, Try.ntmps54
  by_cases h0 : a1 < 0
  · have hr := H.out
    rw [if_pos (Or.inl h0)] at hr
    obtain rfl := Option.some.inj hr
    go_wp2
    go_ret
    exact ⟨_, rfl, HN.out, below_alloc (Below.refl _ _) _⟩
  go_wp2_with fail
  have HT := Aside0.mk (blk_new w (.cells #[.int .u64 a0_0, .slice A0_1 l0_1.length c0_1, .int .u32 a0_2] 45))
  have HRA := Aside0.mk (Kd.C_alloc HR.out (.cells #[.int .u64 a0_0, .slice A0_1 l0_1.length c0_1, .int .u32 a0_2] 45))
  have HB := Aside0.mk (below_alloc (Below.refl w.heap.size w) (.cells #[.int .u64 a0_0, .slice A0_1 l0_1.length c0_1, .int .u32 a0_2] 45))
  generalize w.alloc (.cells #[.int .u64 a0_0, .slice A0_1 l0_1.length c0_1, .int .u32 a0_2] 45) = w1 at HT HRA HB ⊢
  refine (scullerref12_Pages.calls k a0_0 A0_1 c0_1 l0_1 a0_2 n _ HRA.out HL.out HPG.out).mono ?_
  rintro e w2 ⟨rfl, hb⟩
  have hm := blk_below HT.out hb
  have d0 : w2.cell? ⟨w.heap.size, 0, none⟩ = some (.int .u64 a0_0) := (blk_cell hm 0).trans rfl
  have d1 : w2.cell? ⟨w.heap.size, 1, none⟩ = some (.slice A0_1 l0_1.length c0_1) := (blk_cell hm 1).trans rfl
  have d2 : w2.cell? ⟨w.heap.size, 2, none⟩ = some (.int .u32 a0_2) := (blk_cell hm 2).trans rfl
  have HB2 := Aside0.mk (below_step HB.out hb)
  clear hm hb HB HT HRA
  by_cases h1 : a1 ≥ n
  · have hr := H.out
    rw [if_pos (Or.inr h1)] at hr
    obtain rfl := Option.some.inj hr
    go_wp2
    go_ret
    exact ⟨_, rfl, HN.out, HB2.out⟩
  · have hr := H.out
    rw [if_neg (by omega)] at hr
    by_cases h2 : 4 * a1 ≤ l0_1.length ∧ l0_1.length ≤ 1152921504606846975
    case neg => rw [if_neg h2] at hr; cases hr
    rw [if_pos h2] at hr
    obtain rfl := Option.some.inj hr
    obtain ⟨i, rfl⟩ : ∃ i : Nat, a1 = i := ⟨a1.toNat, by omega⟩
    obtain ⟨h2, h3⟩ := h2
    have hlc : (l0_1.length : Int) ≤ (c0_1 : Int) := by have := HL.out; omega
    have hlc2 : l0_1.length ≤ c0_1 := HL.out
    have hlo : 4 * (i : Int) ≤ (l0_1.length : Int) := by omega
    have HM := fun W' hC => Kd.C_mid (k := Kd.int .i64) (w := W') (A := A0_1) (c := c0_1) (lo := 4 * i) (hi := min (4 * i + 4) l0_1.length) (xs := l0_1) hC (by omega) (by omega) (by omega)
    have hfin : ∀ (A : Option Addr) (n m : Nat), n = ((l0_1.take (min (4 * i + 4) l0_1.length)).drop (4 * i)).length → n ≤ m → A = (if c0_1 = 4 * i then A0_1 else A0_1.map (·.add (4 * i))) → Part (Kd.int .i64) A0_1 l0_1 (.slice A n m) ((l0_1.take (min (4 * i + 4) l0_1.length)).drop (4 * i)) := by
      intro A n m hn hm hA
      subst hn hA
      exact ⟨_, _, rfl, hm, fun W' hC => by have h_ := HM W' hC; rw [show (Kd.int .i64).sz = 1 from rfl, Nat.mul_one] at h_; exact h_⟩
    have hln : ((l0_1.take (min (4 * i + 4) l0_1.length)).drop (4 * i)).length = min (4 * i + 4) l0_1.length - 4 * i := by rw [List.length_drop, List.length_take]; omega
    have HF := Aside0.mk hfin
    have HLN := Aside0.mk hln
    clear HM hfin hln
    by_cases hm : 4 * i + 4 ≤ l0_1.length
    · have hm1 : (4 * (i : Int) + 4) ≤ (l0_1.length : Int) := by omega
      have hm2 : (4 * (i : Int) + 4) ≤ (c0_1 : Int) := by omega
      have hc : ¬ c0_1 = 4 * i := by omega
      go_wp2
      go_ret
      exact ⟨_, rfl, HF.out _ _ _ (by rw [HLN.out]; omega) (by omega) (by first | rw [if_neg hc] | simp [hc]), HB2.out⟩
    · have hm1 : ¬ (4 * (i : Int) + 4) ≤ (l0_1.length : Int) := by omega
      by_cases hc : c0_1 = 4 * i
      · go_wp2
        go_ret
        exact ⟨_, rfl, HF.out _ _ _ (by rw [HLN.out]; omega) (by omega) (by first | rw [if_pos hc] | simp [hc]), HB2.out⟩
      · go_wp2
        go_ret
        exact ⟨_, rfl, HF.out _ _ _ (by rw [HLN.out]; omega) (by omega) (by first | rw [if_neg hc] | simp [hc]), HB2.out⟩
theorem scullerref12_Page.calls (k : Nat) (a0_0 : Int) (A0_1 : Option Addr) (c0_1 : Nat) (l0_1 : List Int) (a0_2 : Int) (a1 : Int) (r : List Int) (w : World) (hr0_1 : Kd.C (Kd.int .i64) w A0_1 l0_1.length l0_1) (hc0_1 : l0_1.length ≤ c0_1) (h : scullerref12_Page.f k a0_0 l0_1 a0_2 a1 = some r) :
    Calls Try.prog 54 #[.agg #[.int .u64 a0_0, .slice A0_1 l0_1.length c0_1, .int .u32 a0_2], .int .i64 a1] w fun e w' => ∃ v0_ : Value, e = .returned (v0_) ∧ Cut (Kd.int .i64) w' v0_ r ∧ Below w.heap.size w w' := by
  refine (scullerref12_Page.calls2 k a0_0 A0_1 c0_1 l0_1 a0_2 a1 r w hr0_1 hc0_1 h).mono ?_
  rintro e w' ⟨v, he, ⟨A, c, e2, hl, hC⟩, hb⟩
  exact ⟨v, he, ⟨A, c, e2, hl, hC _ (Kd.C_below hr0_1 hb)⟩, hb⟩
end Go.Proofs.Ytliohoalackhiaa.N
