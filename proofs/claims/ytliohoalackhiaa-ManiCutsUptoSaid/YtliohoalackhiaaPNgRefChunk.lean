/- The document's Chunk: a cut of an arena's bytes, in whatever memory. -/
import Derived.Test.YtliohoalackhiaaPNx9
import Derived.Test.YtliohoalackhiaaPNx11
import Derived.Test.YtliohoalackhiaaPW
namespace Go.Proofs.Ytliohoalackhiaa.N
open Go.RowKit Go.Proofs.YtliohoalackhiaaW.PrintWords Go.Proofs.YtliohoalackhiaaW.PrintLast Go.Proofs.YtliohoalackhiaaW.PrintMore
attribute [local go_sem] max2_int min2_int max_two min_two
set_option linter.unusedVariables false
set_option linter.unusedSimpArgs false
/-- What the document's Chunk computes. -/
def scullerref12_Chunk.f (k : Nat) (l0 : List (List Int)) (a1 : Int) : Option (List Int) :=
  (scullerref07_Bytes.f k l0).bind fun b => (scullerref07_Right.f k l0).bind fun t => if b.length ≤ 1152921504606846975 then (if t = false ∨ a1 < 0 ∨ (b.length : Int) ≤ 64 * a1 then some [] else some ((b.take (min (64 * a1.toNat + 64) b.length)).drop (64 * a1.toNat))) else none
/-- A row that is read. -/
def Cut {α : Type} (d : Kd α) (w : World) (v : Value) (xs : List α) : Prop := ∃ A c, v = .slice A xs.length c ∧ xs.length ≤ c ∧ d.C w A xs.length xs
theorem Cut_below {α : Type} {d : Kd α} {w w1 : World} {v : Value} {xs : List α} (h : Cut d w v xs) (hb : Below w.heap.size w w1) : Cut d w1 v xs := by
  obtain ⟨A, c, e, hl, hC⟩ := h
  exact ⟨A, c, e, hl, Kd.C_below hC hb⟩
theorem Cut_alloc {α : Type} {d : Kd α} {w : World} {v : Value} {xs : List α} (h : Cut d w v xs) (o : Obj) : Cut d (w.alloc o) v xs := Cut_below h (below_alloc (Below.refl _ _) o)
theorem Cut_drew {α : Type} {d : Kd α} {w : World} {v : Value} {xs : List α} (h : Cut d w v xs) : Cut d w.drew v xs := Cut_below h (below_drew (Below.refl _ _))
theorem Cut_drewN {α : Type} {d : Kd α} {w : World} {v : Value} {xs : List α} (h : Cut d w v xs) (m : Nat) : Cut d (w.drewN m) v xs := Cut_below h (pw_below_drewN (Below.refl _ _) m)
theorem Cut_slice {α : Type} {d : Kd α} {w : World} {v : Value} {xs : List α} (h : Cut d w v xs) : ∃ A c, v = .slice A xs.length c := by
  obtain ⟨A, c, e, _⟩ := h
  exact ⟨A, c, e⟩
theorem Cut_reads' {α : Type} {d : Kd α} {w : World} {A : Option Addr} {n c : Nat} {xs : List α} (h : Cut d w (.slice A n c) xs) : n = xs.length ∧ n ≤ c ∧ d.C w A xs.length xs := by
  obtain ⟨A', c', e, hl, hC⟩ := h
  injection e with e1 e2 e3
  subst e1 e2 e3
  exact ⟨rfl, hl, hC⟩
theorem Cut_string {P : Program} {w : World} {src dst e : TypeId} {v : Value} {xs : List Int} (hs : P.underlying src = some (.slice e)) (he : P.underlying e = some (.int .u8)) (hd : P.underlying dst = some .string) (h : Cut (Kd.int .u8) w v xs) :
    (convert src dst v).run P w = .ok (.string (strOfNums xs)) w := by
  obtain ⟨A, c, rfl, _, hC⟩ := h
  exact Kd.C_string hs he hd hC
set_option maxRecDepth 100000 in
set_option maxHeartbeats 4000000 in
theorem scullerref12_Chunk.calls (k : Nat) (A0 : Option Addr) (c0 : Nat) (l0 : List (List Int)) (a1 : Int) (r : List Int) (w : World) (hr0 : Kd.C (Kd.slice 38 (Kd.int .u64)) w A0 l0.length l0) (hc0 : l0.length ≤ c0) (h : scullerref12_Chunk.f k l0 a1 = some r) :
    Calls Try.prog 111 #[.slice A0 l0.length c0, .int .i64 a1] w fun e w' => ∃ v0_ : Value, e = .returned (v0_) ∧ Cut (Kd.int .u8) w' v0_ r ∧ Below w.heap.size w w' := by
  unfold scullerref12_Chunk.f at h
  obtain ⟨b, hb0, h⟩ := Option.bind_eq_some_iff.mp h
  obtain ⟨t, ht0, h⟩ := Option.bind_eq_some_iff.mp h
  have HR := Aside0.mk hr0
  have HBY := Aside0.mk hb0
  have HRI := Aside0.mk ht0
  have H := Aside0.mk h
  clear hr0 hb0 ht0 h
  go_enter Try.func111, Try.ntmps111
  go_wp2_with fail
  refine (scullerref07_Bytes.calls k A0 c0 l0 b _ HR.out hc0 HBY.out).mono ?_
  rintro e w1 ⟨vb, rfl, hR, hb⟩
  obtain ⟨Ab, cb, eb⟩ := Kd.R_slice hR
  subst eb
  have HC := Aside0.mk (Kd.R_reads' hR).2.2
  have HL := Aside0.mk (Kd.R_reads' hR).2.1
  have HB := Aside0.mk hb
  clear hR hb
  go_wp2_with fail
  refine (scullerref07_Right.calls k A0 c0 l0 t _ (Kd.C_below HR.out HB.out) hc0 HRI.out).mono ?_
  rintro e w2 ⟨rfl, hb⟩
  have HC2 := Aside0.mk (Kd.C_below HC.out hb)
  have HB2 := Aside0.mk (below_step HB.out hb)
  clear HC HB hb
  have hnil : Cut (Kd.int .u8) w2 (.slice none 0 0) [] := ⟨none, 0, rfl, Nat.le_refl _, Kd.C_nil _ _⟩
  have HN := Aside0.mk hnil
  clear hnil
  by_cases hlb : b.length ≤ 1152921504606846975
  case neg => have hr := H.out; rw [if_neg hlb] at hr; cases hr
  have hr := H.out
  rw [if_pos hlb] at hr
  have ht : wrap64 (Int.tdiv (wrap64 ((b.length : Int) + 63)) 64) = ((b.length : Int) + 63) / 64 := by
    rw [IntWalk.wrap64_in ((b.length : Int) + 63) (by omega), Int.tdiv_eq_ediv_of_nonneg (by omega), IntWalk.wrap64_in _ (by omega)]
  rcases t with _ | _
  · rw [if_pos (Or.inl rfl)] at hr
    obtain rfl := Option.some.inj hr
    go_wp2
    go_ret
    exact ⟨_, rfl, HN.out, HB2.out⟩
  by_cases h0 : a1 < 0
  · rw [if_pos (Or.inr (Or.inl h0))] at hr
    obtain rfl := Option.some.inj hr
    go_wp2
    go_ret
    exact ⟨_, rfl, HN.out, HB2.out⟩
  by_cases h1 : (b.length : Int) ≤ 64 * a1
  · rw [if_pos (Or.inr (Or.inr h1))] at hr
    obtain rfl := Option.some.inj hr
    have hge : a1 ≥ ((b.length : Int) + 63) / 64 := by omega
    go_wp2
    go_ret
    exact ⟨_, rfl, HN.out, HB2.out⟩
  · rw [if_neg (by rintro (q | q | q); exact absurd q (by decide); exact h0 q; exact h1 q)] at hr
    obtain rfl := Option.some.inj hr
    obtain ⟨i, rfl⟩ : ∃ i : Nat, a1 = i := ⟨a1.toNat, by omega⟩
    have hge : ¬ ((i : Int) ≥ ((b.length : Int) + 63) / 64) := by omega
    have hlc : (b.length : Int) ≤ (cb : Int) := by have := HL.out; omega
    have hlc2 : b.length ≤ cb := HL.out
    have hlo : 64 * (i : Int) < (b.length : Int) := by omega
    have HM := Kd.C_mid (c := cb) (lo := 64 * i) (hi := min (64 * i + 64) b.length) HC2.out (by omega) (by omega) (by omega)
    rw [if_neg (by omega)] at HM
    have hfin : ∀ n m : Nat, n = ((b.take (min (64 * i + 64) b.length)).drop (64 * i)).length → n ≤ m → Cut (Kd.int .u8) w2 (.slice (Option.map (fun x => x.add (64 * i)) Ab) n m) ((b.take (min (64 * i + 64) b.length)).drop (64 * i)) := by
      intro n m hn hm
      subst hn
      exact ⟨_, _, rfl, hm, by have h_ := HM; rw [show (Kd.int .u8).sz = 1 from rfl, Nat.mul_one] at h_; exact h_⟩
    have hln : ((b.take (min (64 * i + 64) b.length)).drop (64 * i)).length = min (64 * i + 64) b.length - 64 * i := by rw [List.length_drop, List.length_take]; omega
    have HF := Aside0.mk hfin
    have HLN := Aside0.mk hln
    clear HM hfin hln
    by_cases hm : 64 * i + 64 ≤ b.length
    · have hm1 : (64 * (i : Int) + 64) ≤ (b.length : Int) := by omega
      have hm2 : (64 * (i : Int) + 64) ≤ (cb : Int) := by omega
      go_wp2
      go_ret
      exact ⟨_, rfl, HF.out _ _ (by rw [HLN.out]; omega) (by omega), HB2.out⟩
    · have hm1 : ¬ (64 * (i : Int) + 64) ≤ (b.length : Int) := by omega
      have hm3 : 64 * (i : Int) ≤ (b.length : Int) := by omega
      go_wp2
      go_ret
      exact ⟨_, rfl, HF.out _ _ (by rw [HLN.out]; omega) (by omega), HB2.out⟩
end Go.Proofs.Ytliohoalackhiaa.N
