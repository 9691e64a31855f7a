/- Crash of a store. -/
import Derived.Test.YtliohoalackhiaaHTKeepG
namespace Go.Proofs.Ytliohoalackhiaa.T
open Go.ChangeMaps hiding rd
open Go.RowKit Go.Maps Go.Proofs.YtliohoalackhiaaW.PrintWords Go.Proofs.YtliohoalackhiaaW.PrintLast Go.Proofs.YtliohoalackhiaaW.PrintMore
set_option linter.unusedVariables false
set_option linter.unusedSimpArgs false
/-- what a crash leaves: of the steps those that are kept -/
def crashA : Hist × List Int → List Step → List Bool → Hist × List Int
  | A, s :: ss, true :: ks => crashA (app s A) ss ks
  | A, _ :: ss, false :: ks => crashA A ss ks
  | A, _, _ => A
theorem crashA_nil (A : Hist × List Int) (ks : List Bool) : crashA A [] ks = A := by cases ks <;> rfl
theorem crashA_none (A : Hist × List Int) (ss : List Step) : crashA A ss [] = A := by cases ss <;> rfl
theorem crash_sto {w w1 : World} {base g m1 m2 m' : Nat} {lo t1 t2 : Value} {A1 A2 : Hist × List Int} {steps : List Step} (h : Sto w base g m1 m2 lo A1 A2 steps) (hgc : w.heap[g]? = some (.cells #[.map (some m1), t1, .map (some m2), t2, lo] 112 (0, 0))) (hr : Rd w t1 A1.2)
    (hb : Below w.heap.size w w1) (hm : MapIs w1 m' A1.1) (hm' : w.heap.size ≤ m') (hbase : base ≤ w.heap.size) (w2 : World) (hw2 : w2 = (w1.setCell ⟨g, 2, none⟩ (.map (some m'))).setCell ⟨g, 3, none⟩ t1) :
    Sto w2 base g m1 m' lo A1 A1 steps ∧ Mv w w2 (Own g m1 m2 lo) ∧ (∀ k, Own g m1 m' lo k → Own g m1 m2 lo k ∨ w.heap.size ≤ k) := by
  have hne := h.gl
  have hlt := fun k hk => h.lt (k := k) hk
  have h1l := h.h1.lt
  obtain ⟨_, h1, h2, ne, bg, b1, b2, hl⟩ := h
  have hg1 := blk_below hgc hb
  have hp0 := blk_put hg1 2 (.map (some m')) rfl
  have hs0 := softKept_set (j := 2) hg1 (.map (some m'))
  have hp1 := blk_put hp0 3 t1 rfl
  have hs2 := (softKept_below hb).trans (hs0.trans (softKept_set (j := 3) hp0 t1))
  have hk2 : ∀ k, k ≠ g → w2.heap[k]? = w1.heap[k]? := fun k hk => by rw [hw2]; exact (heap_set _ hk).trans (heap_set _ hk)
  have hsz : w2.heap.size = w1.heap.size := by rw [hw2]; simp [World.setCell]
  have hx : w2.os = w1.os ∧ w2.tape = w1.tape ∧ w2.output = w1.output := by rw [hw2]; exact ⟨rfl, rfl, rfl⟩
  rw [← hw2] at hp1 hs2
  have hgl := hlt g (.inl rfl)
  have hmg : m' ≠ g := by omega
  have hs12 : SoftKept w1 w2 := fun k hk => hk2 k (fun e => sto_soft hg1 (e ▸ hk))
  refine ⟨⟨⟨t1, t1, hp1, hr.step hs2, hr.step hs2⟩, h1.step hs2 ((hk2 m1 hne.1).trans (hb.block m1 h1l)), hm.step hs12 (hk2 m' hmg), by omega, bg, b1, by omega, hl.step hs2 (fun k hk => (hk2 k (fun e => hne.2.2.1 (e ▸ hk))).trans (hb.block k (hlt k (.inr (.inr (.inr hk))))))⟩, ⟨⟨hx.1.trans hb.os, hx.2.1.trans hb.tape, hx.2.2.trans hb.output, by rw [hsz]; exact hb.size, fun _ hk => by omega⟩, by rw [hsz]; exact hb.size, fun k hk hn => (hk2 k (fun e => hn (.inl e))).trans (hb.block k hk)⟩, fun k hk => ?_⟩
  rcases hk with hk | hk | hk | hk
  · exact .inl (.inl hk)
  · exact .inl (.inr (.inl hk))
  · exact .inr (by omega)
  · exact .inl (.inr (.inr (.inr hk)))
/-- what a step's call leaves -/
def StepPost (w : World) (base g m1 m2 : Nat) (lo : Value) (A1 : Hist × List Int) (A : Hist × List Int) (steps : List Step) (e : Ending) (w' : World) : Prop :=
  (∃ v, e = .returned v) ∧ ∃ m2', Sto w' base g m1 m2' lo A1 A steps ∧ Mv w w' (Own g m1 m2 lo) ∧ (∀ k, Own g m1 m2' lo k → Own g m1 m2 lo k ∨ w.heap.size ≤ k)
theorem step_call {w : World} {base g m1 m2 : Nat} {lo : Value} {A1 A2 : Hist × List Int} {steps : List Step} (h : Sto w base g m1 m2 lo A1 A2 steps) {f : Value} {s : Step} (hf : IsStep w f s) (hn : A2.1.length < 1000000) (hbase : base ≤ w.heap.size) :
    (∃ bb bi, f = .func (.func 69) #[] #[.pointer (some ⟨bb, 0, none⟩), .pointer (some ⟨bi, 0, none⟩)] ∧ Calls Try.prog 69 #[.pointer (some ⟨g, 2, none⟩), .pointer (some ⟨bb, 0, none⟩), .pointer (some ⟨bi, 0, none⟩)] w (StepPost w base g m1 m2 lo A1 (app s A2) steps)) ∨
    (∃ bb, f = .func (.func 108) #[] #[.pointer (some ⟨bb, 0, none⟩)] ∧ Calls Try.prog 108 #[.pointer (some ⟨g, 2, none⟩), .pointer (some ⟨bb, 0, none⟩)] w (StepPost w base g m1 m2 lo A1 (app s A2) steps)) ∨
    (f = .func (.func 74) #[] #[] ∧ Calls Try.prog 74 #[.pointer (some ⟨g, 2, none⟩)] w (StepPost w base g m1 m2 lo A1 (app s A2) steps)) := by
  have HS := Aside0.mk h
  obtain ⟨⟨t1, t2, hgc, r1, r2⟩, h1, h2, ne, bg, b1, b2, hl⟩ := h
  cases s with
  | put i xs =>
    obtain ⟨bb, bi, v, rfl, hi, hb, hr, hi0⟩ := hf
    refine .inl ⟨bb, bi, rfl, (put_step w g m2 bb bi v t2 (.map (some m1)) t1 lo i A2.1 xs hgc h2 hn hi hb hr hi0).mono ?_⟩
    rintro e w1 ⟨hv, hm, hg⟩
    obtain ⟨q1, q2⟩ := put_sto HS.out hm hg
    exact ⟨hv, m2, q1, q2, fun k q => .inl q⟩
  | save xs =>
    obtain ⟨bb, v, rfl, hb, hr⟩ := hf
    refine .inr (.inl ⟨bb, rfl, (save_step w g m2 bb v t2 (.map (some m1)) t1 lo xs hgc hb hr).mono ?_⟩)
    rintro e w1 ⟨hv, rfl⟩
    obtain ⟨q1, q2⟩ := save_sto HS.out hr
    exact ⟨hv, m2, q1, q2, fun k q => .inl q⟩
  | clear =>
    refine .inr (.inr ⟨hf, (clear_step w g m2 t2 (.map (some m1)) t1 lo hgc).mono ?_⟩)
    rintro e w1 ⟨hv, rfl⟩
    obtain ⟨q1, q2⟩ := clear_sto HS.out
    refine ⟨hv, w.heap.size, q1, q2, fun k q => ?_⟩
    rcases q with q | q | q | q
    · exact .inl (.inl q)
    · exact .inl (.inr (.inl q))
    · exact .inr (by omega)
    · exact .inl (.inr (.inr (.inr q)))
theorem all2_at {α β : Type} {R : α → β → Prop} {l : List α} {m : List β} (h : All2 R l m) : ∀ {k : Nat}, k < m.length → ∃ a b, l[k]? = some a ∧ m.drop k = b :: m.drop (k + 1) ∧ R a b := by
  induction h with
  | nil => intro k hk; simp at hk
  | cons h t ih =>
    intro k hk
    cases k with
    | zero => exact ⟨_, _, rfl, rfl, h⟩
    | succ k =>
      obtain ⟨a, b, h1, h2, h3⟩ := ih (k := k) (by simpa using hk)
      exact ⟨a, b, by simpa using h1, by simpa using h2, h3⟩
set_option maxRecDepth 100000 in
set_option maxHeartbeats 4000000 in
theorem keep_crash (w : World) (base g m1 m2 : Nat) (lo : Value) (A1 A2 : Hist × List Int) (steps : List Step) (h : Sto w base g m1 m2 lo A1 A2 steps) (hbase : base ≤ w.heap.size) (hn : A1.1.length + steps.length < 1000000)
    (A : Option Addr) (c : Nat) (ks : List Bool) (hk : ∀ w', Kept w w' (Own g m1 m2 lo) → Kd.C Kd.bool w' A ks.length ks) (hkc : ks.length ≤ c) :
    Calls Try.prog 19 #[.pointer (some ⟨g, 0, none⟩), .slice A ks.length c] w fun e w' => (∃ v, e = .returned v) ∧ ∃ m1' m2', Sto w' base g m1' m2' (.slice none 0 0) (crashA A1 steps ks) (crashA A1 steps ks) [] ∧ Mv w w' (Own g m1 m2 lo) ∧ (∀ k, Own g m1' m2' (.slice none 0 0) k → Own g m1 m2 lo k ∨ w.heap.size ≤ k) := by
  have HS := Aside0.mk h
  have HK := Aside0.mk hk
  obtain ⟨⟨t1, t2, hgc, r1, r2⟩, h1, h2, ne, bg, b1, b2, hl⟩ := h
  have HC := Aside0.mk (copied_any w m1 A1.1 t1 A1.2 h1 r1)
  have HR := Aside0.mk r1
  have HG := Aside0.mk hgc
  obtain ⟨B, b, e, hl, hC⟩ := r1.reads
  obtain ⟨B2, b2, e', hl', hC'⟩ := r2.reads
  subst e e'
  have d0 : w.cell? ⟨g, 0, none⟩ = some (.map (some m1)) := (blk_cell hgc 0).trans rfl
  have d1 : w.cell? ⟨g, 1, none⟩ = some (.slice B A1.2.length b) := (blk_cell hgc 1).trans rfl
  clear hgc r1 r2 h1 h2 ne bg b1 hl hl' hC hC' hk
  go_enter Try.func19, Try.ntmps19
  go_wp2_with fail
  refine HC.out.mono ?_
  rintro e w1 ⟨m', rfl, hm', hM, hb⟩
  have HM := Aside0.mk hM
  have HB := Aside0.mk hb
  have HL := Aside0.mk hm'
  have hg1 := blk_below HG.out HB.out
  have e2 : w1.cell? ⟨g, 2, none⟩ = some (.map (some m2)) := (blk_cell hg1 2).trans rfl
  have e3 : w1.cell? ⟨g, 3, none⟩ = some (.slice B2 A2.2.length b2) := (blk_cell hg1 3).trans rfl
  have e4 : w1.cell? ⟨g, 4, none⟩ = some lo := (blk_cell hg1 4).trans rfl
  have f2 := blk_frozen hg1 2
  have f3 := blk_frozen hg1 3
  clear hM hb hm' hg1 d0 d1
  obtain ⟨fs0, hR0, hf0⟩ := HS.out.hl
  obtain ⟨Al, cl, el⟩ := Kd.R_slice hR0
  rw [List.length_map, hf0.length] at el
  clear hR0 hf0
  go_wp2_with fail
  obtain ⟨q1, q2, q3⟩ := crash_sto HS.out HG.out HR.out HB.out HM.out HL.out hbase _ rfl
  clear e2 e3 e4 f2 f3
  subst el
  generalize (w1.setCell ⟨g, 2, none⟩ (.map (some m'))).setCell ⟨g, 3, none⟩ (.slice B A1.2.length b) = w2 at q1 q2 q3 ⊢
  go_loopw [21] (fun i wr => ∃ (k : Nat) (m3 : Nat) (Ai : Hist × List Int), k ≤ steps.length ∧ i = .int .i64 k ∧ Aside0 (Sto wr base g m1 m3 (.slice Al steps.length cl) A1 Ai steps) ∧ Aside0 (Mv w wr (Own g m1 m2 (.slice Al steps.length cl))) ∧ Aside0 (∀ k, Own g m1 m3 (.slice Al steps.length cl) k → Own g m1 m2 (.slice Al steps.length cl) k ∨ w.heap.size ≤ k) ∧ Aside0 (crashA Ai (steps.drop k) (ks.drop k) = crashA A1 steps ks) ∧ Aside0 (Ai.1.length ≤ A1.1.length + k))
    (fun i _ => steps.length - (intOf i).toNat)
  case atStart => exact ⟨0, m', A1, Nat.zero_le _, rfl, ⟨q1⟩, ⟨q2⟩, ⟨q3⟩, ⟨rfl⟩, ⟨Nat.le_refl _⟩⟩
  case round =>
    clear q1 q2 q3
    obtain ⟨k, m3, Ai, hkl, rfl, HSr, HVr, HOr, HCr, HLr⟩ := hrel
    have hbr : base ≤ wr.heap.size := Nat.le_trans hbase HVr.out.b.size
    by_cases hlt : k < steps.length
    · obtain ⟨fs, hRr, hfr⟩ := HSr.out.hl
      obtain ⟨f, s, ef, es, hf⟩ := all2_at hfr hlt
      obtain ⟨ad, ck, rfl, hckl, hK, hcell⟩ := Kd.C_get (Kd.R_reads' hRr).2.2 [] (k : Int) (by omega) (by rw [List.length_map, hfr.length]; omega)
      have hf1 : ck = [f] := by
        have h_ := hK.1
        rw [Int.toNat_natCast, List.getD_eq_getElem?_getD, List.getElem?_map, ef] at h_
        exact h_
      subst hf1
      have hc0 : wr.cell? (ad.add k) = some f := by
        have h_ := hcell 0 f rfl
        have h2_ : wr.cell? (ad.add ((k : Int).toNat * 1 + 0)) = some f := h_
        rwa [Int.toNat_natCast, Nat.mul_one, Nat.add_zero] at h2_
      have HSC := Aside0.mk (step_call HSr.out hf (by have := HLr.out; omega) hbr)
      have HES := Aside0.mk es
      clear hRr hfr ef es hf hckl hK hcell
      have hlt' : (k : Int) < (steps.length : Int) := by omega
      by_cases hkk : k < ks.length
      · obtain ⟨ad2, rfl, hb0⟩ := Kd.at_bool (HK.out wr HVr.out.k) (k : Int) (by omega) (by omega)
        rw [Int.toNat_natCast] at hb0
        have hkk' : (k : Int) < (ks.length : Int) := by omega
        have eks : ks.drop k = rdOf false ks (k : Int) :: ks.drop (k + 1) := by
          unfold rdOf
          rw [Int.toNat_natCast, List.drop_eq_getElem_cons hkk, List.getD_eq_getElem?_getD, List.getElem?_eq_getElem hkk]; rfl
        have HEK := Aside0.mk eks
        clear eks
        rcases hbv : rdOf false ks (k : Int) with _ | _
        · rw [hbv] at hb0
          have HBV := Aside0.mk hbv
          clear hbv
          go_wp2_with fail
          go_roundw
          case measure => simp [intOf]; omega
          case rel => exact ⟨k + 1, m3, Ai, by omega, by go_num, HSr, HVr, HOr, ⟨by rw [← HCr.out, HES.out, HEK.out, HBV.out]; rfl⟩, ⟨by have := HLr.out; omega⟩⟩
        · rw [hbv] at hb0
          have HBV := Aside0.mk hbv
          clear hbv
          have happ : ∀ s : Step, (app s Ai).1.length ≤ Ai.1.length + 1 := by
            intro s
            cases s <;> simp [app]
          have HAP := Aside0.mk (happ s)
          clear happ
          rcases HSC.out with ⟨bb, bi, rfl, hc⟩ | ⟨bb, rfl, hc⟩ | ⟨rfl, hc⟩
          all_goals
            clear HSC
            have HCC := Aside0.mk hc
            clear hc
            go_wp2_with fail
            refine HCC.out.mono ?_
            rintro e w3 ⟨⟨rv, rfl⟩, m4, hS3, hV3, hO3⟩
            have HS3 := Aside0.mk hS3
            have HV3 := Aside0.mk (HVr.out.trans hV3 (fun k q => HOr.out k q))
            have HO3 := Aside0.mk (fun k q => (hO3 k q).elim (fun q => HOr.out k q) (fun q => (.inr (Nat.le_trans HVr.out.b.size q) : Own g m1 m2 (.slice (some ad) steps.length cl) k ∨ w.heap.size ≤ k)))
            clear hS3 hV3 hO3
            go_wp2_with fail
            go_roundw
            case measure => simp [intOf]; omega
            case rel => exact ⟨k + 1, m4, app s Ai, by omega, by go_num, HS3, HV3, HO3, ⟨by rw [← HCr.out, HES.out, HEK.out, HBV.out]; rfl⟩, ⟨by have := HLr.out; have := HAP.out; omega⟩⟩
      · have hkk' : ¬ (k : Int) < (ks.length : Int) := by omega
        go_wp2_with fail
        go_roundw
        case measure => simp [intOf]; omega
        case rel => exact ⟨k + 1, m3, Ai, by omega, by go_num, HSr, HVr, HOr, ⟨by rw [← HCr.out, List.drop_of_length_le (show ks.length ≤ k + 1 by omega), List.drop_of_length_le (show ks.length ≤ k by omega), crashA_none, crashA_none]⟩, ⟨by have := HLr.out; omega⟩⟩
    · have hlt' : ¬ (k : Int) < (steps.length : Int) := by omega
      have hAi : Ai = crashA A1 steps ks := by
        rw [← HCr.out, List.drop_of_length_le (show steps.length ≤ k by omega), crashA_nil]
      have HAI := Aside0.mk hAi
      clear hAi
      have HF := Aside0.mk (keep_flush wr base g m1 m3 _ A1 Ai steps HSr.out hbr)
      go_wp2_with fail
      refine HF.out.mono ?_
      rintro e w4 ⟨⟨rv, rfl⟩, m5, hS4, hV4, hO4⟩
      rw [HAI.out] at hS4
      have HS4 := Aside0.mk hS4
      have HV4 := Aside0.mk (HVr.out.trans hV4 (fun k q => HOr.out k q))
      have HO4 := Aside0.mk (fun k q => (hO4 k q).elim (fun q => HOr.out k q) (fun q => (.inr (Nat.le_trans HVr.out.b.size q) : Own g m1 m2 (.slice Al steps.length cl) k ∨ w.heap.size ≤ k)))
      clear hS4 hV4 hO4
      go_wp2
      go_end0
      exact ⟨⟨_, rfl⟩, m5, m3, HS4.out, HV4.out, HO4.out⟩
end Go.Proofs.Ytliohoalackhiaa.T
