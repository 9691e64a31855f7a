/- arena.Bytes lays all words of an arena, eight bytes each, one behind the other: for every arena of fewer than 2^43 words, in whatever memory. -/
import Derived.Test.YtliohoalackhiaaPNgAWIter
import Derived.Test.YtliohoalackhiaaPNx3
import Derived.Test.YtliohoalackhiaaPRound
namespace Go.Proofs.Ytliohoalackhiaa.N
open Go.RowKit Go.Shelf Go.Proofs.YtliohoalackhiaaW.PrintWords Go.Proofs.YtliohoalackhiaaW.PrintLast Go.Proofs.YtliohoalackhiaaW.PrintMore
set_option linter.unusedVariables false
set_option linter.unusedSimpArgs false
attribute [local go_sem] Oper.semAt_some
/-- the eight bytes of a word -/
def put8 (x : Int) : List Int := (word_Put.f 9 x 8).getD []
theorem put8_some (x : Int) : word_Put.f 9 x 8 = some (put8 x) ∧ (put8 x).length = 8 := by
  have h : ∃ l, word_Put.f 9 x 8 = some l ∧ l.length = 8 := by
    simp [word_Put.f, word_Put.l0, mx, mn, wrap64]
  obtain ⟨l, e, hl⟩ := h
  unfold put8
  rw [e]
  exact ⟨rfl, hl⟩
/-- What arena.Bytes computes. -/
def arena_Bytes.f (l0 : List (List Int)) : Option (List Int) := if l0.flatten.length < 8796093022208 then some (l0.flatten.flatMap put8) else none
theorem flat8 (l : List Int) : (l.flatMap put8).length = 8 * l.length := by
  induction l with
  | nil => rfl
  | cons x t ih => rw [List.flatMap_cons, List.length_append, ih, (put8_some x).2, List.length_cons]; omega
/-- a row of the call's own outlives what turns no cells -/
theorem own_R {β : Type} {B e base : Nat} {ok : Nat → Prop} (g : β → List Int) (p : β → Value → World → Prop) (hp : ∀ v, OwnFrom B (fun s W => p s v W)) : OwnFrom B (fun s W => ∃ v, p s v W ∧ Kd.R (Kd.int .u8) e W base ok v (g s)) := by
  rintro s W W' row ⟨v, h1, h2⟩ hg hr
  refine ⟨v, hp v s W W' row h1 hg hr, Kd.R_mono (Kd.R_grown (Kd.R_bound h2) hg ?_) (fun k hk => hk.1)⟩
  rintro k ⟨_, _, _, q, _, cells, hc⟩ hk
  obtain ⟨_, o, ho, hn⟩ := hr k hk.symm
  rw [hc] at ho
  cases ho
  cases hn
theorem not_own {e base : Nat} {ok : Nat → Prop} {W : World} {v : Value} {xs : List Int} (h : Kd.R (Kd.int .u8) e W base ok v xs) {k : Nat} {o : Obj} (ho : W.heap[k]? = some o) (hn : o.isCells = false) : some k ≠ v.ownBlock := by
  intro e_
  obtain ⟨_, _, _, q, _, cells, hc⟩ := (Kd.R_bound h).1 k e_.symm
  rw [hc] at ho
  cases ho
  cases hn
theorem box_grown {W w1 : World} {row : Option Nat} {b : Nat} {v : Value} (hg : W.grownBy w1 row) (h : W.cell? ⟨b, 0, none⟩ = some v) (hf : W.frozen? ⟨b, 0, none⟩ = false) (hne : some b ≠ row) : w1.cell? ⟨b, 0, none⟩ = some v ∧ w1.frozen? ⟨b, 0, none⟩ = false := by
  have hb := hg.block b (World.block_lt_of_cell? _ _ h) hne
  refine ⟨World.grownBy.cell hg h hne, ?_⟩
  unfold World.frozen? at hf ⊢
  rw [hb]
  exact hf
set_option maxRecDepth 100000 in
set_option maxHeartbeats 4000000 in
theorem abytes_in (A : Option Addr) (cap : Nat) (a : List (List Int)) (w : World) (hC : Kd.C (Kd.slice 38 (Kd.int .u64)) w A a.length a) (hmax : a.flatten.length < 8796093022208) (hcap : a.length ≤ cap) :
    CallsIn Fence.wide 3 Try.prog 83 #[.slice A a.length cap] w fun e W' => ∃ v0_ : Value, e = .returned v0_ ∧ Kd.R (Kd.int .u8) 5 W' w.heap.size (fun _ => True) v0_ (a.flatten.flatMap put8) ∧ Below w.heap.size w W' := by
  have hal : a.length ≤ maxLen := Kd.C_max hC
  have HC := Aside0.mk hC
  have HL := Aside0.mk hal
  clear hC hal
  refine callsIn_of_wp_marks Try.func83 rfl trivial ?_ rfl
  simp only [Try.ntmps83, List.size_toArray, List.length_cons, List.length_nil, Nat.reduceAdd, Nat.reduceSub, Array.replicate_succ, Array.replicate_zero, List.push_toArray, List.append_toArray, List.nil_append, List.cons_append]
  gi_wp2_with (refine ⟨trivial, ?_⟩; gi_at_call 124; refine (words_in _ _ _ _ _).mono ?_; rintro e w' ⟨rfl, rfl⟩)
  have bS := Boxed.new w 22 (.slice none 0 0)
  have bN := Boxed.new (w.alloc (.cells #[.slice none 0 0] 22)) 40 (.slice A a.length cap)
  rw [World.size_alloc] at bN
  have hB0 : Below w.heap.size w ((w.alloc (.cells #[.slice none 0 0] 22)).alloc (.cells #[.slice A a.length cap] 40)) := ((Below.refl _ w).alloc (Nat.le_refl _) _).alloc (by simp) _
  refine wpIn_rangeFunc_ownG rfl (by omega) (gf := 148) (lb := #[.pointer (some ⟨w.heap.size + 1, 0, none⟩)]) rfl trivial (enters_of Try.func148 (by kernel_rfl) rfl)
    (words_stops (3 - 1) (by omega) (w.heap.size + 1) w A cap a HC.out (by omega) HL.out _ hB0 bN.cell) (fun h k => belowK_t h k) (belowK_b (by simp; omega)) (Below.refl _ _) (fun _ => rfl)
    (fun pre W => (∃ v, (W.cell? ⟨w.heap.size, 0, none⟩ = some v ∧ W.frozen? ⟨w.heap.size, 0, none⟩ = false) ∧ Kd.R (Kd.int .u8) 5 W w.heap.size (fun k => k ≠ w.heap.size) v ((pre.map (·.2)).flatMap put8)) ∧ Below w.heap.size w W)
    (fun _ _ _ => False)
    (OwnFrom.and (own_R _ _ (fun v => Own.from (fun s A B row hs hg hr => ⟨cell_kept hs.1 hg hr, (frozen_kept hs.1 hg hr).trans hs.2⟩) _)) (ownFrom_below (Nat.le_refl _) (by simp; omega)))
    (fun _ _ _ _ _ hs _ _ => hs)
    ⟨⟨_, ⟨(bS.alloc _).cell, (bS.alloc _).frozen⟩, Kd.R_nil _ _ _ _ _⟩, hB0⟩
    (fun x => { tmps := #[.slice A a.length cap, undef, .slice none 0 0, .pointer (some ⟨w.heap.size, 0, none⟩), undef, .int .u64 x.2, .slice A a.length cap, .func (.func 148) #[] #[.pointer (some ⟨w.heap.size + 1, 0, none⟩)], .int .i64 x.1, .int .u64 x.2, undef, undef, undef, undef, undef], defers := [] }) ?assign ?body ?done ?stop
  case assign =>
    intro l x W K hK
    gi_wp2
    simpa using hK
  case body =>
    rintro l pre x W ⟨⟨v, ⟨hc, hf⟩, hR⟩, hB⟩ hpl
    obtain ⟨L, hL⟩ : ∃ L, L = (pre.map (·.2)).flatMap put8 := ⟨_, rfl⟩
    obtain ⟨P, hP0⟩ : ∃ P, P = put8 x.2 := ⟨_, rfl⟩
    rw [← hL] at hR
    have HL_ := Aside0.mk hL
    have HP_ := Aside0.mk hP0
    clear hL hP0
    have HC1 := Aside0.mk (show W.drew.cell? ⟨w.heap.size, 0, none⟩ = some v from hc)
    have HF1 := Aside0.mk (show W.drew.frozen? ⟨w.heap.size, 0, none⟩ = false from hf)
    have HR1 := Aside0.mk (Kd.R_drew hR)
    have HN1 := Aside0.mk (below_drew1 (Below.refl w.heap.size W))
    have HB1 := Aside0.mk hB
    clear hc hf hR hB
    gi_wp2_with fail
    refine start_in (n := 5) (S := fun w' => w'.cell? ⟨w.heap.size, 0, none⟩ = some v) (ds := [3, 4]) #[false, false, false, false, false] (by kernel_rfl) (by rintro ⟨_, _, h_⟩; exact h_) (by kernel_rfl) rfl rfl (HC1.out) (fun hHeld => ?_)
    refine pure_ (i := 1) (N := some 11) (v := ?_) (a' := ?_) #[false, true, false, false, false] rfl rfl (by kernel_rfl) (fun _ _ _ h => h) (Or.inl ⟨by rfl, ?_⟩) ?_ ?_
    rotate_left
    · intro w'
      go_simp
      with_reducible rfl
    rotate_left
    · simp only [Act.put, List.setIfInBounds_toArray, List.set_cons_zero, List.set_cons_succ, i64_w, i32_w]
      rfl
    refine take_ (i := 0) (N := some 10) (v := ?_) (a' := ?_) #[true, true, false, false, false] rfl rfl (by kernel_rfl) (fun _ _ _ h => h) (Or.inl ⟨by rfl, ?_⟩) hHeld ?_ ?_
    rotate_left
    · intro w' s0
      go_simp
      with_reducible rfl
    rotate_left
    · simp only [Act.put, List.setIfInBounds_toArray, List.set_cons_zero, List.set_cons_succ, i64_w, i32_w]
      rfl
    refine one_ (i := 2) (N := some 12) #[true, true, true, false, false] rfl rfl (by kernel_rfl) (by decide) (fun K hK => ?_)
    refine goes_ Try.func82 (by kernel_rfl) rfl #[.int .u64 x.2, .int .i64 8] (by rfl) rfl rfl (by first | (simp only [List.map_toArray, List.map_cons, List.map_nil]; done) | (simp only [List.map_toArray, List.map_cons, List.map_nil]; rfl)) ?_
    with_reducible refine (word_Put.calls 9 x.2 8 P _ (by rw [HP_.out]; exact (put8_some x.2).1)).mono ?_
    rintro e w3 ⟨vp, rfl, hP, hb⟩
    refine ⟨_, rfl, ?_⟩
    obtain ⟨Ap, cp, ep⟩ := Kd.R_slice hP
    subst ep
    have hc3 := (hb.cell (World.block_lt_of_cell? _ _ HC1.out)).trans HC1.out
    have hf3 := (hb.frozen (World.block_lt_of_cell? _ _ HC1.out)).trans HF1.out
    have HR3 := Aside0.mk (Kd.R_below HR1.out hb)
    have HN3 := Aside0.mk (HN1.out.trans (hb.mono HB1.out.size))
    have HP3 := Aside0.mk hP
    have HK3 := Aside0.mk hb
    clear hb hP
    refine hK.out _ _ (hc3) (fun hHeld => ?_)
    clear hK K
    refine norm_ (a' := ?_) ?_ ?_
    rotate_left
    · show Act.put _ (some 12) _ = _
      simp only [Act.put, List.setIfInBounds_toArray, List.set_cons_zero, List.set_cons_succ, i64_w, i32_w]
      rfl
    refine last_ (i := 3) (N := some 13) #[true, true, true, true, false] rfl rfl (by kernel_rfl) (by decide) (fun K hK => ?_)
    refine Kd.R_append_rows_step (Kd.int .u8) (w0 := W) w.heap.size (by rfl) (.tmp 10) (.tmp 12) 22 5 (.int .u8 0) 1 rfl Try.underlying22 info5 rfl (by decide) (by omega) v L P Ap P.length cp (fun k => k ≠ w.heap.size) (fun _ => False) rfl rfl ?aO ?aR (fun _ _ h => h) (fun _ h => h.elim) ?aF ?aB ?aS ?aL ?_
    (case aO => exact HR3.out)
    (case aR => exact (Kd.R_reads' HP3.out).2.2)
    (case aF => intro k_ hk_ e_; have := World.block_lt_of_cell? _ _ hc3; simp at this; omega)
    (case aB => exact HN3.out)
    (case aS => exact Nat.le_trans HB1.out.size HN3.out.size)
    (case aL => rw [HL_.out, HP_.out, flat8, (put8_some x.2).2, List.length_map]; omega)
    intro v7 w7 ho hb hg hat
    obtain ⟨M, hM⟩ : ∃ M, M = L ++ P := ⟨_, rfl⟩
    rw [← hM] at ho
    have HM_ := Aside0.mk hM
    clear hM
    obtain ⟨hc7, hf7⟩ := box_grown hg hc3 hf3 (fun e_ => HR3.out.1 _ e_.symm rfl)
    have HO7 := Aside0.mk ho
    have HN7 := Aside0.mk hb
    have HG7 := Aside0.mk hg
    clear ho hb hg hat
    obtain ⟨A7, c7, e7⟩ := Kd.R_slice HO7.out
    subst e7
    refine hK.out _ _ ?_
    clear hK K
    refine norm_ (a' := ?_) ?_ ?_
    rotate_left
    · show Act.put _ (some 13) _ = _
      simp only [Act.put, List.setIfInBounds_toArray, List.set_cons_zero, List.set_cons_succ, i64_w, i32_w]
      rfl
    refine last_ (i := 4) (N := none) #[true, true, true, true, true] rfl rfl (by kernel_rfl) (by decide) (fun K hK => ?_)
    refine skip_ (w1 := ?_) (by rfl) rfl ?_ ?_
    rotate_left
    · go_simp
      rfl
    refine hK.out _ _ ?_
    clear hK K
    refine done_ (by kernel_rfl) ?_
    have hne : some w.heap.size ≠ (Value.slice A7 M.length c7).ownBlock := fun e_ => HO7.out.1 _ e_.symm rfl
    refine ⟨⟨?_, ?_⟩, HN7.out.setCell (p := ⟨w.heap.size, 0, none⟩) (Nat.le_refl _) _, ⟨.slice A7 M.length c7, ⟨?_, by rw [World.frozen?_setCell]; exact hf7⟩, ?_⟩, (HB1.out.trans HN7.out).setCell (p := ⟨w.heap.size, 0, none⟩) (Nat.le_refl _) _⟩
    · rw [World.size_setCell]; exact HN7.out.size
    · intro k o hk ho hn
      have hk7 : w7.heap[k]? = some o := by
        have hlt := (Array.getElem?_eq_some_iff.1 ho).1
        have h3 : w3.heap[k]? = some o := (HK3.out.block k hlt).trans ho
        refine (HG7.out.block k (Array.getElem?_eq_some_iff.1 h3).1 ?_).trans h3
        exact not_own HR3.out h3 hn
      rw [Below.heap_setCell _ _ _ _ (by show k ≠ w.heap.size; simp at hk; omega)]
      exact hk7
    · exact (World.cell?_setCell_same' _ _ _ (by rw [hc7]; rfl))
    · have := Kd.R_far (p := ⟨w.heap.size, 0, none⟩) HO7.out (fun _ hk => hk) (.slice A7 M.length c7)
      have e_ : ((pre ++ [x]).map (·.2)).flatMap put8 = M := by rw [HM_.out, HL_.out, HP_.out]; simp
      rw [e_]
      exact this
  case done =>
    rintro D ys W hD hS ⟨⟨v, ⟨hc, hf⟩, hR⟩, hB⟩ hK
    have hyl : (ys.map (·.2)) = a.flatten := by rw [show ys = enumF 0 a.flatten from hS, enumF_snd]
    rw [hyl] at hR
    gi_wp2
    refine ⟨by simp, .inl ⟨_, _, rfl, run_takeDeferred hK, ?_⟩⟩
    refine ⟨_, results_tmp rfl _ _ _, _, rfl, ?_, hB.trans (belowK_b (w := w) (Nat.le_refl _) W D _ _ (by simp at hD; omega) hK rfl rfl)⟩
    refine Kd.R_mono (Kd.R_grown (Kd.R_bound hR) (grownBy_putObj' _ D (.deferred none)) ?_) (fun _ _ => trivial)
    rintro k_ ⟨_, _, _, q, _, cells, hq⟩ hk
    cases hk
    rw [hK] at hq
    cases hq
  case stop =>
    rintro D c pre W _ _ h _
    exact h.elim
theorem arena_Bytes.calls (A0 : Option Addr) (c0 : Nat) (l0 : List (List Int)) (r : List Int) (w : World) (hr0 : Kd.C (Kd.slice 38 (Kd.int .u64)) w A0 l0.length l0) (hc0 : l0.length ≤ c0) (h : arena_Bytes.f l0 = some r) :
    Calls Try.prog 83 #[.slice A0 l0.length c0] w fun e w' => ∃ v0_ : Value, e = .returned v0_ ∧ Kd.R (Kd.int .u8) 5 w' w.heap.size (fun _ => True) v0_ r ∧ Below w.heap.size w w' := by
  unfold arena_Bytes.f at h
  by_cases hl : l0.flatten.length < 8796093022208
  · rw [if_pos hl] at h
    obtain rfl := Option.some.inj h
    exact (callsIn_wide (n := 3)).1 (abytes_in A0 c0 l0 w hr0 hl hc0)
  · rw [if_neg hl] at h; cases h
end Go.Proofs.Ytliohoalackhiaa.N
