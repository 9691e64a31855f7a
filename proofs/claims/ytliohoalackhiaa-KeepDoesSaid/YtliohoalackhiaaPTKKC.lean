/- A store and the document's: what grows, and what does not. -/
/- A store and the document's are alike. -/
import Derived.Test.YtliohoalackhiaaPTKeepU
import Derived.Test.YtliohoalackhiaaPTTTok
import Derived.Test.YtliohoalackhiaaPW
namespace Go.Proofs.Ytliohoalackhiaa.T
open Go.ChangeMaps hiding rd
open Go.RowKit Go.Maps Go.Proofs.YtliohoalackhiaaW.PrintWords Go.Proofs.YtliohoalackhiaaW.PrintLast Go.Proofs.YtliohoalackhiaaW.PrintMore Go.Proofs.Ytliohoalackhiaa.Num Go.Proofs.Ytliohoalackhiaa.CrcN
set_option linter.unusedVariables false
set_option linter.unusedSimpArgs false
structure Fine (n : Nat) (A1 A2 : Hist × List Int) (steps : List Step) : Prop where
  s1 : ∀ p ∈ A1.1, p.2.length ≤ 64
  s2 : ∀ p ∈ A2.1, p.2.length ≤ 64
  s3 : ∀ s ∈ steps, ∀ i xs, s = .put i xs → xs.length ≤ 64
  n1 : A1.1.length + steps.length ≤ n
  n2 : A2.1.length ≤ n
theorem Fine.new : Fine 0 ([], []) ([], []) [] := ⟨fun p h => (by cases h), fun p h => (by cases h), fun s h => (by cases h), by simp, by simp⟩
theorem steps_snoc {steps : List Step} {s : Step} (h : ∀ t ∈ steps, ∀ i xs, t = .put i xs → xs.length ≤ 64) (hs : ∀ i xs, s = .put i xs → xs.length ≤ 64) : ∀ t ∈ steps ++ [s], ∀ i xs, t = .put i xs → xs.length ≤ 64 := by
  intro t ht i xs e
  rcases List.mem_append.1 ht with ht | ht
  · exact h t ht i xs e
  · rw [List.mem_singleton.1 ht] at e
    exact hs i xs e
theorem Fine.put {n : Nat} {A1 A2 : Hist × List Int} {steps : List Step} (h : Fine n A1 A2 steps) (i : Int) (xs : List Int) (hx : xs.length ≤ 64) : Fine (n + 1) A1 ((i, xs) :: A2.1, A2.2) (steps ++ [.put i xs]) := by
  have h1 := h.n1
  have h2 := h.n2
  refine ⟨h.s1, ?_, steps_snoc h.s3 (fun j ys e => (by cases e; exact hx)), by rw [List.length_append, List.length_singleton]; omega, by rw [List.length_cons]; omega⟩
  intro p hp
  rcases List.mem_cons.1 hp with rfl | hp
  · exact hx
  · exact h.s2 p hp
theorem Fine.save {n : Nat} {A1 A2 : Hist × List Int} {steps : List Step} (h : Fine n A1 A2 steps) (E : List Int) : Fine (n + 1) A1 (A2.1, E) (steps ++ [.save E]) := by
  have h1 := h.n1
  have h2 := h.n2
  exact ⟨h.s1, h.s2, steps_snoc h.s3 (fun j ys e => (by cases e)), by rw [List.length_append, List.length_singleton]; omega, Nat.le_succ_of_le h2⟩
theorem Fine.clear {n : Nat} {A1 A2 : Hist × List Int} {steps : List Step} (h : Fine n A1 A2 steps) : Fine (n + 1) A1 ([], []) (steps ++ [.clear]) := by
  have h1 := h.n1
  exact ⟨h.s1, fun p hp => (by cases hp), steps_snoc h.s3 (fun j ys e => (by cases e)), by rw [List.length_append, List.length_singleton]; omega, Nat.zero_le _⟩
theorem Fine.flush {n : Nat} {A1 A2 : Hist × List Int} {steps : List Step} (h : Fine n A1 A2 steps) : Fine (n + 1) A2 A2 [] := by
  have h2 := h.n2
  exact ⟨h.s2, h.s2, fun s hs => (by cases hs), by rw [List.length_nil]; omega, by omega⟩
theorem Fine.stay {n : Nat} {A1 A2 : Hist × List Int} {steps : List Step} (h : Fine n A1 A2 steps) : Fine (n + 1) A1 A2 steps := by
  have h1 := h.n1
  have h2 := h.n2
  exact ⟨h.s1, h.s2, h.s3, by omega, by omega⟩
theorem crashA_fine : ∀ (ss : List Step) (ks : List Bool) (A : Hist × List Int), (∀ p ∈ A.1, p.2.length ≤ 64) → (∀ s ∈ ss, ∀ i xs, s = .put i xs → xs.length ≤ 64) → (∀ p ∈ (crashA A ss ks).1, p.2.length ≤ 64) ∧ (crashA A ss ks).1.length ≤ A.1.length + ss.length
  | [], ks, A, h1, h2 => by rw [crashA_nil]; exact ⟨h1, by simp⟩
  | s :: ss, [], A, h1, h2 => by rw [crashA_none]; exact ⟨h1, by simp⟩
  | s :: ss, false :: ks, A, h1, h2 => by
    obtain ⟨q1, q2⟩ := crashA_fine ss ks A h1 (fun t ht => h2 t (List.mem_cons_of_mem _ ht))
    rw [crashA]
    exact ⟨q1, by rw [List.length_cons]; omega⟩
  | s :: ss, true :: ks, A, h1, h2 => by
    have ha : (∀ p ∈ (app s A).1, p.2.length ≤ 64) ∧ (app s A).1.length ≤ A.1.length + 1 := by
      cases s with
      | put i xs =>
        refine ⟨fun p hp => ?_, by simp [app]⟩
        rcases List.mem_cons.1 hp with rfl | hp
        · exact h2 _ (by simp) i xs rfl
        · exact h1 p hp
      | save E => exact ⟨h1, by simp [app]⟩
      | clear => exact ⟨fun p hp => (by cases hp), by simp [app]⟩
    obtain ⟨q1, q2⟩ := crashA_fine ss ks (app s A) ha.1 (fun t ht => h2 t (List.mem_cons_of_mem _ ht))
    rw [crashA]
    exact ⟨q1, by rw [List.length_cons]; have := ha.2; omega⟩
theorem Fine.crash {n : Nat} {A1 A2 : Hist × List Int} {steps : List Step} (h : Fine n A1 A2 steps) (ks : List Bool) : Fine (n + 1) (crashA A1 steps ks) (crashA A1 steps ks) [] := by
  obtain ⟨q1, q2⟩ := crashA_fine steps ks A1 h.s1 h.s3
  have h1 := h.n1
  exact ⟨q1, q1, fun s hs => (by cases hs), by rw [List.length_nil]; omega, by omega⟩
theorem blk_mv {w w' : World} {base g m1 m2 : Nat} {lo : Value} {A1 A2 : Hist × List Int} {steps : List Step} {k : Nat} {cs : Array Value} {t : TypeId} {fr : Nat × Nat} (hk : w.heap[k]? = some (.cells cs t fr)) (mv : Mv w w' (Own g m1 m2 lo)) (hs : Sto w base g m1 m2 lo A1 A2 steps) (h1 : t ≠ 112) (h2 : t ≠ 119) : w'.heap[k]? = some (.cells cs t fr) :=
  (mv.k.2 k (blk_lt hk) (fun q => hs.calm q ⟨cs, t, fr, hk, h1, h2⟩)).trans hk
set_option maxRecDepth 100000 in
set_option maxHeartbeats 4000000 in
theorem keep_put_no (w : World) (g : Nat) (i : Int) (A : Option Addr) (n c : Nat) (hbad : i < 0 ∨ (¬ i < 0 ∧ i ≥ 512) ∨ (¬ i < 0 ∧ ¬ i ≥ 512 ∧ (n : Int) > 64)) :
    Calls Try.prog 16 #[.pointer (some ⟨g, 0, none⟩), .int .i64 i, .slice A n c] w fun e w' => e = .returned (.bool false) ∧ Below w.heap.size w w' := by
  have hbl := below_alloc (below_alloc (Below.refl w.heap.size w) (.cells #[.int .i64 i] 3)) (.cells #[.slice A n c] 22)
  go_enter Try.func16, Try.ntmps16
  rcases hbad with h0 | ⟨h0, h1⟩ | ⟨h0, h1, h2⟩
  all_goals
    go_wp2_with fail
    go_ret
    exact ⟨rfl, hbl⟩
end Go.Proofs.Ytliohoalackhiaa.T
namespace Go.Proofs.Ytliohoalackhiaa.T
open Go.ChangeMaps hiding rd
open Go.RowKit Go.Maps Go.Proofs.YtliohoalackhiaaW.PrintWords Go.Proofs.YtliohoalackhiaaW.PrintLast Go.Proofs.YtliohoalackhiaaW.PrintMore Go.Proofs.Ytliohoalackhiaa.Num Go.Proofs.Ytliohoalackhiaa.CrcN
set_option linter.unusedVariables false
set_option linter.unusedSimpArgs false
theorem dec_empty : token_Decode.f 100 [] = some (0, [], 0, [], 10) := by
  unfold token_Decode.f
  rw [if_pos (by simp)]
theorem TokIs.dec {isb : Bool} {x : Int} {ss : List Int} {y : Int} {kn E : List Int} (h : TokIs isb x ss y kn E) : ∃ r1 r2 r3 r4 r5, token_Decode.f 100 E = some (r1, r2, r3, r4, r5) ∧ decide (r5 = 0) = isb ∧ (isb = true → r1 = x ∧ r2 = ss ∧ r3 = y ∧ r4 = kn ∧ scullerref14_Same.f 100 x ss y kn x ss y kn = some true) := by
  rcases h with ⟨rfl, rfl⟩ | ⟨rfl, h1, h2, h3, h4, rfl⟩
  · exact ⟨0, [], 0, [], 10, dec_empty, rfl, fun h => by cases h⟩
  · have h16 := ((fitsB_iff ss).1 h1.1).2.1
    exact ⟨x, ss, y, kn, 0, dec_back h1 h2 h3 h4 100 (by omega), rfl, fun _ => ⟨rfl, rfl, rfl, rfl, rtokSame_self h2 (by omega) 100 (by omega)⟩⟩
theorem getA_len {H : Hist} (h : ∀ p ∈ H, p.2.length ≤ 64) (i : Int) : ((getA H i).getD []).length ≤ 64 := by
  unfold getA
  cases hq : H.find? (fun p => p.1 == i) with
  | none => simp
  | some p => exact h p (List.mem_of_find?_eq_some hq)
def like.T5 : Bool × List (List Nat × List Nat) := (true, [([], []), ([0], [0]), ([], []), ([2], [2]), ([1, 3], [1, 3]), ([4], [4]), ([5], [5]), ([5], [5]), ([6, 7, 5], [5, 6, 7]), ([5, 8], [5, 8]), ([9, 5], [9]), ([10], [10]), ([10, 11], [10, 11]), ([12, 10], [12]), ([13], [13]), ([14, 13, 13], [13, 14]), ([15, 13], [13, 15]), ([13], [13]), ([17, 15, 13], [13, 17]), ([18, 13], [13, 18]), ([16, 19, 13], [13, 16, 19]), ([13, 20], [13, 20]), ([21, 18], [21]), ([22], [22]), ([23, 22, 22], [22, 23]), ([22], [22]), ([25, 22], [22, 25]), ([26, 22], [22, 26]), ([24, 27, 22], [22, 24, 27]), ([22, 28], [22, 28]), ([29, 24, 0, 1, 2, 3, 4, 5, 6, 7, 8, 9, 10, 11, 12, 13, 14, 15, 16, 17, 18, 19, 20, 21, 22, 23, 24, 25, 26, 27, 28, 29], [29])])
def like.B5 : List Nat := [0, 1, 0, 4, 15, 31, 63, 63, 255, 511, 1023, 2047, 4095, 8191, 16383, 32767, 65535, 16383, 196607, 458751, 1048575, 2097151, 4194303, 8388607, 16777215, 8388607, 41943039, 109051903, 268435455, 536870911, 1073741823]
theorem like.tab5 : rtab .any (opsOf Try.f66 5) = like.T5 := by kernel_rfl
theorem like.bits5 : waitsOk like.T5.2 like.B5 = true := by kernel_rfl
set_option maxRecDepth 100000 in
set_option maxHeartbeats 8000000 in
theorem like_true (w : World) (b g m1 m2 : Nat) (hb : b ≤ w.heap.size) (lo : Value) (vs : List Value) (A1 A2 : Hist × List Int) (steps : List Step) (nf : Nat) (hS : Sto w b g m1 m2 lo A1 A2 steps) (h : RT b w vs A1 A2 steps) (hf : Fine nf A1 A2 steps) (i : Int) (hi : -9223372036854775808 ≤ i ∧ i ≤ 9223372036854775807) :
    Calls Try.prog 66 #[.pointer (some ⟨g, 0, none⟩), .agg vs.toArray, .int .i64 i] w fun e w' => e = .returned (.bool true) ∧ Below w.heap.size w w' := by
  have hA : ∀ p ∈ A2.1, 0 ≤ p.1 ∧ p.1 < 512 := by obtain ⟨_, _, _, q⟩ := hS.h2; exact q
  have hrt := h
  obtain ⟨Ah, ch, Ac, cc, isb, x, V1, n1, c1, y, V3, n3, c3, Bh, ch2, Bc, cc2, isb2, x2, V12, n12, c12, y2, V32, n32, c32, L, n, cl, rows, rfl, h1, h2, h3, h4, h5, h6⟩ := h.shape
  have hn : n = steps.length := h3.trans h6.length
  clear h3
  subst hn
  obtain ⟨ss, kn, e1, e2, hTR, hTI⟩ := h2.tok
  subst e1 e2
  obtain ⟨r1, r2, r3, r4, r5, hD, hisb, hsame⟩ := hTI.dec
  have HRT := Aside0.mk hrt
  have HS := Aside0.mk hS
  have HTR := Aside0.mk hTR
  have HAA := Aside0.mk hA
  have HF := Aside0.mk hf
  have HD := Aside0.mk hD
  have hlen := getA_len hf.s2 i
  clear h hrt h1 h2 h4 h5 h6 hTR hTI hS hA hf hD
  go_enter Try.func66, Try.ntmps66
  go_wp2_with fail
  have hbz := below_alloc (Below.refl w.heap.size w) (.cells #[.slice Ah 512 ch, .slice Ac 512 cc, .bool isb, .int .u64 x, .slice V1 n1 c1, .int .u32 y, .slice V3 n3 c3, .slice Bh 512 ch2, .slice Bc 512 cc2, .bool isb2, .int .u64 x2, .slice V12 ss.length c12, .int .u32 y2, .slice V32 kn.length c32, .slice L steps.length cl] 100)
  have hz := blk_new w (.cells #[.slice Ah 512 ch, .slice Ac 512 cc, .bool isb, .int .u64 x, .slice V1 n1 c1, .int .u32 y, .slice V3 n3 c3, .slice Bh 512 ch2, .slice Bc 512 cc2, .bool isb2, .int .u64 x2, .slice V12 ss.length c12, .int .u32 y2, .slice V32 kn.length c32, .slice L steps.length cl] 100)
  generalize hgz : w.heap.size = gz at hz ⊢
  generalize w.alloc (.cells #[.slice Ah 512 ch, .slice Ac 512 cc, .bool isb, .int .u64 x, .slice V1 n1 c1, .int .u32 y, .slice V3 n3 c3, .slice Bh 512 ch2, .slice Bc 512 cc2, .bool isb2, .int .u64 x2, .slice V12 ss.length c12, .int .u32 y2, .slice V32 kn.length c32, .slice L steps.length cl] 100) = wz at hbz hz ⊢
  have HZ := Aside0.mk hz
  have hbw := Nat.le_trans hb hbz.size
  have HSz := Aside0.mk (HS.out.below hbz)
  have HRz := Aside0.mk (HRT.out.step (Leaves.of_below hbz hb))
  have HTz := Aside0.mk (HTR.out.step (Leaves.of_below hbz hb))
  have HBZ := Aside0.mk hbz
  clear HS HRT HTR hz hbz hgz
  refine (keep_get wz b g _ _ _ _ _ _ HSz.out i (wf_i64 hi) (by omega)).mono ?_
  rintro e w1 ⟨v1, rfl, hR1, hb1⟩
  obtain ⟨A1_, k1, e1⟩ := Kd.R_slice hR1
  subst e1
  obtain ⟨l1, hl1⟩ : ∃ l1, (getA A2.1 i).getD [] = l1 := ⟨_, rfl⟩
  obtain ⟨isg, hisg⟩ : ∃ b, (getA A2.1 i).isSome = b := ⟨_, rfl⟩
  rw [hl1] at hR1
  rw [hl1, hisg]
  have HG1 := Aside0.mk hR1
  have HB1 := Aside0.mk hb1
  have HRG := Aside0.mk (ref_get w1 b (Nat.le_trans hbw hb1.size) _ A1 A2 steps (HRz.out.step (Leaves.of_below hb1 hbw)) HAA.out i hi)
  have hz1 := blk_below HZ.out hb1
  clear hR1 hb1
  obtain ⟨t0, t1, t2, t3, t4, t5, t6, t7, t8, t9, t10, t11, t12, t13, t14⟩ := cells15 hz1
  clear hz1
  go_wp2_with fail
  clear t0 t1 t2 t3 t4 t5 t6 t7 t8 t9 t10 t11 t12 t13 t14
  refine HRG.out.mono ?_
  rintro e w2 ⟨l2, B2, k2, q1, q2, q3, q4, q5, hb2⟩
  rw [hl1] at q1
  rw [hisg] at q2
  subst q1
  obtain rfl := q2
  have HG2 := Aside0.mk q5.now
  have HB2 := Aside0.mk (below_step HB1.out hb2)
  have HG1b := Aside0.mk (Kd.R_below HG1.out hb2)
  clear hb2 q4 q5 HRG
  go_wp2_with fail
  refine (keep_token w2 b g _ _ _ _ _ _ (HSz.out.below HB2.out) 100 r1 r2 r3 r4 r5 HD.out).mono ?_
  rintro e w3 ⟨v5, v6, rfl, hR5, hR6, hb3⟩
  obtain ⟨D1, d1, e5⟩ := Kd.R_slice hR5
  obtain ⟨D3, d3, e6⟩ := Kd.R_slice hR6
  subst e5 e6
  have hbt := below_alloc (Below.refl w3.heap.size w3) (.cells #[.int .u64 r1, .slice D1 r2.length d1, .int .u32 r3, .slice D3 r4.length d3] 66)
  have hz3 := blk_below HZ.out (below_step HB2.out (below_step hb3 hbt))
  have HB3 := Aside0.mk (below_step HB2.out (below_step hb3 hbt))
  have HG23 := Aside0.mk (Kd.C_below HG2.out (below_step hb3 hbt))
  have HG1c := Aside0.mk (Kd.R_below HG1b.out (below_step hb3 hbt))
  have HD5 := Aside0.mk (Kd.R_below hR5 hbt)
  have HD6 := Aside0.mk (Kd.R_below hR6 hbt)
  obtain ⟨t0, t1, t2, t3, t4, t5, t6, t7, t8, t9, t10, t11, t12, t13, t14⟩ := cells15 hz3
  clear hz3 hR5 hR6 hbt hb3
  have h16 : ∀ k : Nat, decide (r5 = 0) = isb2 := fun _ => hisb
  cases isb2 with
  | true =>
    obtain ⟨rfl, rfl, rfl, rfl, hsm⟩ := hsame rfl
    have hr5 : r5 = 0 := of_decide_eq_true hisb
    subst hr5
    clear hsame hisb h16
    go_wp2_with fail
    refine (scullerref14_Same.calls 100 r1 D1 d1 r2 r3 D3 d3 r4 r1 V12 c12 r2 r3 V32 c32 r4 true _ (Kd.R_reads' HD5.out).2.2 (Kd.R_reads' HD5.out).2.1 (Kd.R_reads' HD6.out).2.2 (Kd.R_reads' HD6.out).2.1 ((HTz.out.step (Leaves.of_below HB3.out hbw)).2.2.1).now HTz.out.1 ((HTz.out.step (Leaves.of_below HB3.out hbw)).2.2.2).now HTz.out.2.1 hsm).mono ?_
    rintro e wq ⟨rfl, hbq⟩
    have HBq := Aside0.mk (below_step HB3.out hbq)
    have HG2q := Aside0.mk (Kd.C_below HG23.out hbq)
    have HG1d := Aside0.mk (Kd.R_below HG1c.out hbq)
    clear hbq HB3 HG23 HD5 HD6 t0 t1 t2 t3 t4 t5 t6 t7 t8 t9 t10 t11 t12 t13 t14
    have HZq := Aside0.mk (blk_below HZ.out HBq.out)
    clear HG1 HG1b HG1c
    have HG1 := HG1d
    clear HG1d HB1 HB2
    have HSq := Aside0.mk (HSz.out.below HBq.out)
    have hbq := Nat.le_trans hbw HBq.out.size
    have HRq := Aside0.mk (HRz.out.step (Leaves.of_below HBq.out hbw))
    have HHR := Aside0.mk (fun W (hb : Below wq.heap.size wq W) => ref_held W b (Nat.le_trans hbq hb.size) [.slice Ah 512 ch, .slice Ac 512 cc, .bool isb, .int .u64 x, .slice V1 n1 c1, .int .u32 y, .slice V3 n3 c3, .slice Bh 512 ch2, .slice Bc 512 cc2, .bool true, .int .u64 r1, .slice V12 r2.length c12, .int .u32 r3, .slice V32 r4.length c32, .slice L steps.length cl] A1 A2 steps (HRq.out.step (Leaves.of_below hb hbq)))
    have HB1 := Aside0.mk (below_drew1 (Below.refl wq.heap.size wq))
    have HG2 := HG2q
    clear HSz HRz HTz HZ HG2q
    go_wp2_with fail
    refine start_ (n := 31) (S := fun w' => S15 gz (.slice Ah 512 ch) (.slice Ac 512 cc) (.bool isb) (.int .u64 x) (.slice V1 n1 c1) (.int .u32 y) (.slice V3 n3 c3) (.slice Bh 512 ch2) (.slice Bc 512 cc2) (.bool true) (.int .u64 r1) (.slice V12 r2.length c12) (.int .u32 r3) (.slice V32 r4.length c32) (.slice L steps.length cl) w' ∧ (convert 22 9 (.slice A1_ l1.length k1)).run Try.prog w' = .ok (.string (strOfNums l1)) w' ∧ (convert 22 9 (.slice B2 l1.length k2)).run Try.prog w' = .ok (.string (strOfNums l1)) w') (ds := []) (Far.bm 31 0) (by kernel_rfl) rfl rfl ⟨cells15 (blk_below HZq.out HB1.out), (own_string (P := Try.prog) Try.underlying22 Try.underlying5 Try.underlying9 (Kd.own_of_R (Kd.R_below HG1.out HB1.out))), (Kd.C_string (P := Try.prog) Try.underlying22 Try.underlying5 Try.underlying9 (Kd.C_below HG2.out HB1.out))⟩ (fun hHeld => ?_)
    refine with_tabW like.tab5 like.bits5 (fun HT_ HW_ => ?_)
    refine pure_ (i := 0) (N := some 47) (v := ?_) (a' := ?_) (Far.bm 31 1) rfl rfl (any_of HT_.out (by kernel_rfl)) (fun _ _ _ h => h) (Or.inl ⟨by rfl, ?_⟩) ?_ ?_; rotate_left; (intro w'; go_simp; with_reducible rfl); rotate_left; (simp only [Act.put, List.setIfInBounds_toArray, List.set_cons_zero, List.set_cons_succ, i64_w, i32_w]; rfl)
    refine pure_ (i := 2) (N := some 49) (v := ?_) (a' := ?_) (Far.bm 31 5) rfl rfl (any_of HT_.out (by kernel_rfl)) (fun _ _ _ h => h) (Or.inl ⟨by rfl, ?_⟩) ?_ ?_; rotate_left; (intro w'; go_simp; with_reducible rfl); rotate_left; (simp only [Act.put, List.setIfInBounds_toArray, List.set_cons_zero, List.set_cons_succ, i64_w, i32_w]; rfl)
    refine take_ (i := 1) (N := some 48) (v := ?_) (a' := ?_) (Far.bm 31 7) rfl rfl (take_ofW HT_.out HW_.out (by kernel_rfl)) (fun _ _ _ h => h) (Or.inl ⟨by rfl, ?_⟩) hHeld ?_ ?_; rotate_left; (rintro w' ⟨⟨s0, s1, s2, s3, s4, s5, s6, s7, s8, s9, s10, s11, s12, s13, s14⟩, s15, s16⟩; go_simp; with_reducible rfl); rotate_left; (simp only [Act.put, List.setIfInBounds_toArray, List.set_cons_zero, List.set_cons_succ, i64_w, i32_w]; rfl)
    refine take_ (i := 3) (N := some 50) (v := ?_) (a' := ?_) (Far.bm 31 15) rfl rfl (take_ofW HT_.out HW_.out (by kernel_rfl)) (fun _ _ _ h => h) (Or.inl ⟨by rfl, ?_⟩) hHeld ?_ ?_; rotate_left; (rintro w' ⟨⟨s0, s1, s2, s3, s4, s5, s6, s7, s8, s9, s10, s11, s12, s13, s14⟩, s15, s16⟩; go_simp; with_reducible rfl); rotate_left; (simp only [Act.put, List.setIfInBounds_toArray, List.set_cons_zero, List.set_cons_succ, i64_w, i32_w]; rfl)
    refine pure_ (i := 4) (N := some 51) (v := ?_) (a' := ?_) (Far.bm 31 31) rfl rfl (any_of HT_.out (by kernel_rfl)) (fun _ _ _ h => h) (Or.inl ⟨by rfl, ?_⟩) ?_ ?_; rotate_left; (intro w'; go_simp; with_reducible rfl); rotate_left; (simp only [Act.put, List.setIfInBounds_toArray, List.set_cons_zero, List.set_cons_succ, i64_w, i32_w]; rfl)
    refine pure_ (i := 5) (N := some 52) (v := ?_) (a' := ?_) (Far.bm 31 63) rfl rfl (any_of HT_.out (by kernel_rfl)) (fun _ _ _ h => h) (Or.inl ⟨by rfl, ?_⟩) ?_ ?_; rotate_left; (intro w'; go_simp; with_reducible rfl); rotate_left; (simp only [Act.put, List.setIfInBounds_toArray, List.set_cons_zero, List.set_cons_succ, i64_w, i32_w]; rfl)
    refine pure_ (i := 6) (N := some 53) (v := ?_) (a' := ?_) (Far.bm 31 127) rfl rfl (any_of HT_.out (by kernel_rfl)) (fun _ _ _ h => h) (Or.inl ⟨by rfl, ?_⟩) ?_ ?_; rotate_left; (intro w'; go_simp; with_reducible rfl); rotate_left; (simp only [Act.put, List.setIfInBounds_toArray, List.set_cons_zero, List.set_cons_succ, i64_w, i32_w]; rfl)
    refine pure_ (i := 7) (N := some 54) (v := ?_) (a' := ?_) (Far.bm 31 255) rfl rfl (any_of HT_.out (by kernel_rfl)) (fun _ _ _ h => h) (Or.inl ⟨by rfl, ?_⟩) ?_ ?_; rotate_left; (intro w'; go_simp; with_reducible rfl); rotate_left; (simp only [Act.put, List.setIfInBounds_toArray, List.set_cons_zero, List.set_cons_succ, i64_w, i32_w]; rfl)
    refine pure_ (i := 8) (N := some 55) (v := ?_) (a' := ?_) (Far.bm 31 511) rfl rfl (any_of HT_.out (by kernel_rfl)) (fun _ _ _ h => h) (Or.inl ⟨by rfl, ?_⟩) ?_ ?_; rotate_left; (intro w'; go_simp; with_reducible rfl); rotate_left; (simp only [Act.put, List.setIfInBounds_toArray, List.set_cons_zero, List.set_cons_succ, i64_w, i32_w]; rfl)
    refine pure_ (i := 9) (N := some 56) (v := ?_) (a' := ?_) (Far.bm 31 1023) rfl rfl (any_of HT_.out (by kernel_rfl)) (fun _ _ _ h => h) (Or.inl ⟨by rfl, ?_⟩) ?_ ?_; rotate_left; (intro w'; go_simp; with_reducible rfl); rotate_left; (simp only [Act.put, List.setIfInBounds_toArray, List.set_cons_zero, List.set_cons_succ, i64_w, i32_w]; rfl)
    refine pure_ (i := 10) (N := some 57) (v := ?_) (a' := ?_) (Far.bm 31 2047) rfl rfl (any_of HT_.out (by kernel_rfl)) (fun _ _ _ h => h) (Or.inl ⟨by rfl, ?_⟩) ?_ ?_; rotate_left; (intro w'; go_simp; with_reducible rfl); rotate_left; (simp only [Act.put, List.setIfInBounds_toArray, List.set_cons_zero, List.set_cons_succ, i64_w, i32_w]; rfl)
    refine pure_ (i := 11) (N := some 58) (v := ?_) (a' := ?_) (Far.bm 31 4095) rfl rfl (any_of HT_.out (by kernel_rfl)) (fun _ _ _ h => h) (Or.inl ⟨by rfl, ?_⟩) ?_ ?_; rotate_left; (intro w'; go_simp; with_reducible rfl); rotate_left; (simp only [Act.put, List.setIfInBounds_toArray, List.set_cons_zero, List.set_cons_succ, i64_w, i32_w]; rfl)
    refine pure_ (i := 12) (N := some 59) (v := ?_) (a' := ?_) (Far.bm 31 8191) rfl rfl (any_of HT_.out (by kernel_rfl)) (fun _ _ _ h => h) (Or.inl ⟨by rfl, ?_⟩) ?_ ?_; rotate_left; (intro w'; go_simp; with_reducible rfl); rotate_left; (simp only [Act.put, List.setIfInBounds_toArray, List.set_cons_zero, List.set_cons_succ, i64_w, i32_w]; rfl)
    refine pure_ (i := 13) (N := some 60) (v := ?_) (a' := ?_) (Far.bm 31 16383) rfl rfl (any_of HT_.out (by kernel_rfl)) (fun _ _ _ h => h) (Or.inl ⟨by rfl, ?_⟩) ?_ ?_; rotate_left; (intro w'; go_simp; with_reducible rfl); rotate_left; (simp only [Act.put, List.setIfInBounds_toArray, List.set_cons_zero, List.set_cons_succ, i64_w, i32_w]; rfl)
    refine pure_ (i := 14) (N := some 61) (v := ?_) (a' := ?_) (Far.bm 31 32767) rfl rfl (any_of HT_.out (by kernel_rfl)) (fun _ _ _ h => h) (Or.inl ⟨by rfl, ?_⟩) ?_ ?_; rotate_left; (intro w'; go_simp; with_reducible rfl); rotate_left; (simp only [Act.put, List.setIfInBounds_toArray, List.set_cons_zero, List.set_cons_succ, i64_w, i32_w]; rfl)
    refine take_ (i := 17) (N := some 64) (v := ?_) (a' := ?_) (Far.bm 31 163839) rfl rfl (take_ofW HT_.out HW_.out (by kernel_rfl)) (fun _ _ _ h => h) (Or.inl ⟨by rfl, ?_⟩) hHeld ?_ ?_; rotate_left; (rintro w' ⟨⟨s0, s1, s2, s3, s4, s5, s6, s7, s8, s9, s10, s11, s12, s13, s14⟩, s15, s16⟩; go_simp; with_reducible rfl); rotate_left; (simp only [Act.put, List.setIfInBounds_toArray, List.set_cons_zero, List.set_cons_succ, i64_w, i32_w]; rfl)
    refine one_ (i := 15) (N := some 62) (Far.bm 31 196607) rfl rfl (one_of HT_.out (by kernel_rfl)) (by decide) (fun K hK => ?_)
    refine goes_ Try.func18 (by kernel_rfl) rfl #[.pointer (some ⟨g, 0, none⟩)] (by rfl) rfl rfl (by first | (simp only [List.map_toArray, List.map_cons, List.map_nil]; done) | (simp only [List.map_toArray, List.map_cons, List.map_nil]; rfl)) ?_
    with_reducible refine (keep_held wq.drew _ g _ _ _ _ _ _ (HSq.out.below (below_drew1 (Below.refl wq.heap.size wq)))).mono ?_
    rintro e w2 ⟨v2, lh, rfl, hR2, hl2, hby2, hbits2, hb⟩
    refine ⟨_, rfl, ?_⟩
    obtain ⟨A2_, k2_, e2_⟩ := Kd.R_slice hR2
    subst e2_
    have HLH := Aside0.mk (And.intro hl2 (And.intro hby2 hbits2))
    have HRK := Aside0.mk hR2
    have HB2 := Aside0.mk (below_step HB1.out hb)
    have hstrK := own_string (P := Try.prog) Try.underlying22 Try.underlying5 Try.underlying9 (Kd.own_of_R hR2)
    clear hb hR2 hl2 hby2 hbits2
    refine hK.out _ _ ⟨cells15 (blk_below HZq.out HB2.out), (own_string (P := Try.prog) Try.underlying22 Try.underlying5 Try.underlying9 (Kd.own_of_R (Kd.R_below HG1.out HB2.out))), (Kd.C_string (P := Try.prog) Try.underlying22 Try.underlying5 Try.underlying9 (Kd.C_below HG2.out HB2.out))⟩ (fun hHeld => ?_)
    clear hK K
    refine norm_ (a' := ?_) ?_ ?_; rotate_left; (show Act.put _ (some 62) _ = _; simp only [Act.put, List.setIfInBounds_toArray, List.set_cons_zero, List.set_cons_succ, i64_w, i32_w]; rfl)
    refine join_ (σ := Option Addr × Nat) 11 (Far.bm 31 1048575) (fun s => [(63, .string (strOfNums lh)), (65, .slice s.1 lh.length s.2), (66, .string (strOfNums lh))]) (fun s w' => Below wq.heap.size wq w') ?_ ?_
    rotate_left
    · intro hCont
      refine two_ (i := 16) (j := 18) (Ni := some 63) (Nj := some 65) (Far.bm 31 262143) (Far.bm 31 458751) rfl rfl rfl rfl (two_of HT_.out (by kernel_rfl)) (by decide) (by decide) (fun K hK => ?_) (fun K hK => ?_)
      · skip
        refine value_ (w1 := ?_) (v := ?_) (by rfl) rfl ?_ ?_
        rotate_left 2
        · go_simp
          constructor
          · rfl
          · rfl
        refine hK.out _ _ ⟨cells15 (blk_below HZq.out HB2.out), (own_string (P := Try.prog) Try.underlying22 Try.underlying5 Try.underlying9 (Kd.own_of_R (Kd.R_below HG1.out HB2.out))), (Kd.C_string (P := Try.prog) Try.underlying22 Try.underlying5 Try.underlying9 (Kd.C_below HG2.out HB2.out))⟩ (fun hHeld => ?_)
        clear hK K
        refine norm_ (a' := ?_) ?_ ?_; rotate_left; (show Act.put _ (some 63) _ = _; simp only [Act.put, List.setIfInBounds_toArray, List.set_cons_zero, List.set_cons_succ, i64_w, i32_w]; rfl)
        refine one_ (i := 18) (N := some 65) (Far.bm 31 524287) rfl rfl (one_of HT_.out (by kernel_rfl)) (by decide) (fun K hK => ?_)
        refine goes_ Try.func120 (by kernel_rfl) rfl #[.agg #[.slice Ah 512 ch, .slice Ac 512 cc, .bool isb, .int .u64 x, .slice V1 n1 c1, .int .u32 y, .slice V3 n3 c3, .slice Bh 512 ch2, .slice Bc 512 cc2, .bool true, .int .u64 r1, .slice V12 r2.length c12, .int .u32 r3, .slice V32 r4.length c32, .slice L steps.length cl]] (by rfl) rfl rfl (by first | (simp only [List.map_toArray, List.map_cons, List.map_nil]; done) | (simp only [List.map_toArray, List.map_cons, List.map_nil]; rfl)) ?_
        with_reducible refine (HHR.out _ HB2.out).mono ?_
        rintro e w3 ⟨v3, l3, rfl, hR3, hl3, hby3, hbits3, hb⟩
        refine ⟨_, rfl, ?_⟩
        obtain ⟨A3, k3, e3_⟩ := Kd.R_slice hR3
        subst e3_
        obtain rfl : l3 = lh := B_ext hby3 HLH.out.2.1 (hl3.trans HLH.out.1.symm) (fun j hj => (hbits3 j (by omega)).trans (HLH.out.2.2 j (by omega)).symm)
        have HB3 := Aside0.mk (below_step HB2.out hb)
        have hstrR := own_string (P := Try.prog) Try.underlying22 Try.underlying5 Try.underlying9 (Kd.own_of_R hR3)
        have hstrK3 := own_string (P := Try.prog) Try.underlying22 Try.underlying5 Try.underlying9 (Kd.own_of_R (Kd.R_below HRK.out hb))
        clear hb hR3 hl3 hby3 hbits3
        refine hK.out _ _ ⟨cells15 (blk_below HZq.out HB3.out), (own_string (P := Try.prog) Try.underlying22 Try.underlying5 Try.underlying9 (Kd.own_of_R (Kd.R_below HG1.out HB3.out))), (Kd.C_string (P := Try.prog) Try.underlying22 Try.underlying5 Try.underlying9 (Kd.C_below HG2.out HB3.out))⟩ (fun hHeld => ?_)
        clear hK K
        refine norm_ (a' := ?_) ?_ ?_; rotate_left; (show Act.put _ (some 65) _ = _; simp only [Act.put, List.setIfInBounds_toArray, List.set_cons_zero, List.set_cons_succ, i64_w, i32_w]; rfl)
        refine one_ (i := 19) (N := some 66) (Far.bm 31 1048575) rfl rfl (one_of HT_.out (by kernel_rfl)) (by decide) (fun K hK => ?_)
        refine value_ (w1 := ?_) (v := ?_) (by rfl) rfl ?_ ?_
        rotate_left 2
        · go_simp
          constructor
          · rfl
          · rfl
        refine hK.out _ _ ⟨cells15 (blk_below HZq.out HB3.out), (own_string (P := Try.prog) Try.underlying22 Try.underlying5 Try.underlying9 (Kd.own_of_R (Kd.R_below HG1.out HB3.out))), (Kd.C_string (P := Try.prog) Try.underlying22 Try.underlying5 Try.underlying9 (Kd.C_below HG2.out HB3.out))⟩ (fun hHeld => ?_)
        clear hK K
        refine norm_ (a' := ?_) ?_ ?_; rotate_left; (show Act.put _ (some 66) _ = _; simp only [Act.put, List.setIfInBounds_toArray, List.set_cons_zero, List.set_cons_succ, i64_w, i32_w]; rfl)
        exact norm_ (by simp only [putAll, Act.put, List.setIfInBounds_toArray, List.set_cons_zero, List.set_cons_succ]) (hCont (A3, k3) _ HB3.out)
      · skip
        refine goes_ Try.func120 (by kernel_rfl) rfl #[.agg #[.slice Ah 512 ch, .slice Ac 512 cc, .bool isb, .int .u64 x, .slice V1 n1 c1, .int .u32 y, .slice V3 n3 c3, .slice Bh 512 ch2, .slice Bc 512 cc2, .bool true, .int .u64 r1, .slice V12 r2.length c12, .int .u32 r3, .slice V32 r4.length c32, .slice L steps.length cl]] (by rfl) rfl rfl (by first | (simp only [List.map_toArray, List.map_cons, List.map_nil]; done) | (simp only [List.map_toArray, List.map_cons, List.map_nil]; rfl)) ?_
        with_reducible refine (HHR.out _ HB2.out).mono ?_
        rintro e w3 ⟨v3, l3, rfl, hR3, hl3, hby3, hbits3, hb⟩
        refine ⟨_, rfl, ?_⟩
        obtain ⟨A3, k3, e3_⟩ := Kd.R_slice hR3
        subst e3_
        obtain rfl : l3 = lh := B_ext hby3 HLH.out.2.1 (hl3.trans HLH.out.1.symm) (fun j hj => (hbits3 j (by omega)).trans (HLH.out.2.2 j (by omega)).symm)
        have HB3 := Aside0.mk (below_step HB2.out hb)
        have hstrR := own_string (P := Try.prog) Try.underlying22 Try.underlying5 Try.underlying9 (Kd.own_of_R hR3)
        have hstrK3 := own_string (P := Try.prog) Try.underlying22 Try.underlying5 Try.underlying9 (Kd.own_of_R (Kd.R_below HRK.out hb))
        clear hb hR3 hl3 hby3 hbits3
        refine hK.out _ _ ⟨cells15 (blk_below HZq.out HB3.out), (own_string (P := Try.prog) Try.underlying22 Try.underlying5 Try.underlying9 (Kd.own_of_R (Kd.R_below HG1.out HB3.out))), (Kd.C_string (P := Try.prog) Try.underlying22 Try.underlying5 Try.underlying9 (Kd.C_below HG2.out HB3.out))⟩ (fun hHeld => ?_)
        clear hK K
        refine norm_ (a' := ?_) ?_ ?_; rotate_left; (show Act.put _ (some 65) _ = _; simp only [Act.put, List.setIfInBounds_toArray, List.set_cons_zero, List.set_cons_succ, i64_w, i32_w]; rfl)
        refine two_ (i := 16) (j := 19) (Ni := some 63) (Nj := some 66) (Far.bm 31 524287) (Far.bm 31 983039) rfl rfl rfl rfl (two_of HT_.out (by kernel_rfl)) (by decide) (by decide) (fun K hK => ?_) (fun K hK => ?_)
        · skip
          refine value_ (w1 := ?_) (v := ?_) (by rfl) rfl ?_ ?_
          rotate_left 2
          · go_simp
            constructor
            · rfl
            · rfl
          refine hK.out _ _ ⟨cells15 (blk_below HZq.out HB3.out), (own_string (P := Try.prog) Try.underlying22 Try.underlying5 Try.underlying9 (Kd.own_of_R (Kd.R_below HG1.out HB3.out))), (Kd.C_string (P := Try.prog) Try.underlying22 Try.underlying5 Try.underlying9 (Kd.C_below HG2.out HB3.out))⟩ (fun hHeld => ?_)
          clear hK K
          refine norm_ (a' := ?_) ?_ ?_; rotate_left; (show Act.put _ (some 63) _ = _; simp only [Act.put, List.setIfInBounds_toArray, List.set_cons_zero, List.set_cons_succ, i64_w, i32_w]; rfl)
          refine one_ (i := 19) (N := some 66) (Far.bm 31 1048575) rfl rfl (one_of HT_.out (by kernel_rfl)) (by decide) (fun K hK => ?_)
          refine value_ (w1 := ?_) (v := ?_) (by rfl) rfl ?_ ?_
          rotate_left 2
          · go_simp
            constructor
            · rfl
            · rfl
          refine hK.out _ _ ⟨cells15 (blk_below HZq.out HB3.out), (own_string (P := Try.prog) Try.underlying22 Try.underlying5 Try.underlying9 (Kd.own_of_R (Kd.R_below HG1.out HB3.out))), (Kd.C_string (P := Try.prog) Try.underlying22 Try.underlying5 Try.underlying9 (Kd.C_below HG2.out HB3.out))⟩ (fun hHeld => ?_)
          clear hK K
          refine norm_ (a' := ?_) ?_ ?_; rotate_left; (show Act.put _ (some 66) _ = _; simp only [Act.put, List.setIfInBounds_toArray, List.set_cons_zero, List.set_cons_succ, i64_w, i32_w]; rfl)
          exact norm_ (by simp only [putAll, Act.put, List.setIfInBounds_toArray, List.set_cons_zero, List.set_cons_succ]) (hCont (A3, k3) _ HB3.out)
        · skip
          refine value_ (w1 := ?_) (v := ?_) (by rfl) rfl ?_ ?_
          rotate_left 2
          · go_simp
            constructor
            · rfl
            · rfl
          refine hK.out _ _ ⟨cells15 (blk_below HZq.out HB3.out), (own_string (P := Try.prog) Try.underlying22 Try.underlying5 Try.underlying9 (Kd.own_of_R (Kd.R_below HG1.out HB3.out))), (Kd.C_string (P := Try.prog) Try.underlying22 Try.underlying5 Try.underlying9 (Kd.C_below HG2.out HB3.out))⟩ (fun hHeld => ?_)
          clear hK K
          refine norm_ (a' := ?_) ?_ ?_; rotate_left; (show Act.put _ (some 66) _ = _; simp only [Act.put, List.setIfInBounds_toArray, List.set_cons_zero, List.set_cons_succ, i64_w, i32_w]; rfl)
          refine one_ (i := 16) (N := some 63) (Far.bm 31 1048575) rfl rfl (one_of HT_.out (by kernel_rfl)) (by decide) (fun K hK => ?_)
          refine value_ (w1 := ?_) (v := ?_) (by rfl) rfl ?_ ?_
          rotate_left 2
          · go_simp
            constructor
            · rfl
            · rfl
          refine hK.out _ _ ⟨cells15 (blk_below HZq.out HB3.out), (own_string (P := Try.prog) Try.underlying22 Try.underlying5 Try.underlying9 (Kd.own_of_R (Kd.R_below HG1.out HB3.out))), (Kd.C_string (P := Try.prog) Try.underlying22 Try.underlying5 Try.underlying9 (Kd.C_below HG2.out HB3.out))⟩ (fun hHeld => ?_)
          clear hK K
          refine norm_ (a' := ?_) ?_ ?_; rotate_left; (show Act.put _ (some 63) _ = _; simp only [Act.put, List.setIfInBounds_toArray, List.set_cons_zero, List.set_cons_succ, i64_w, i32_w]; rfl)
          exact norm_ (by simp only [putAll, Act.put, List.setIfInBounds_toArray, List.set_cons_zero, List.set_cons_succ]) (hCont (A3, k3) _ HB3.out)
    rintro ⟨A3, k3⟩ w4 hb4
    have HB4 := Aside0.mk hb4
    have hHeld : S15 gz (.slice Ah 512 ch) (.slice Ac 512 cc) (.bool isb) (.int .u64 x) (.slice V1 n1 c1) (.int .u32 y) (.slice V3 n3 c3) (.slice Bh 512 ch2) (.slice Bc 512 cc2) (.bool true) (.int .u64 r1) (.slice V12 r2.length c12) (.int .u32 r3) (.slice V32 r4.length c32) (.slice L steps.length cl) w4 ∧ (convert 22 9 (.slice A1_ l1.length k1)).run Try.prog w4 = .ok (.string (strOfNums l1)) w4 ∧ (convert 22 9 (.slice B2 l1.length k2)).run Try.prog w4 = .ok (.string (strOfNums l1)) w4 := ⟨cells15 (blk_below HZq.out HB4.out), (own_string (P := Try.prog) Try.underlying22 Try.underlying5 Try.underlying9 (Kd.own_of_R (Kd.R_below HG1.out HB4.out))), (Kd.C_string (P := Try.prog) Try.underlying22 Try.underlying5 Try.underlying9 (Kd.C_below HG2.out HB4.out))⟩
    clear hb4
    refine norm_ (a' := ?_) ?_ ?_
    rotate_left
    · simp only [putAll, Act.put, List.setIfInBounds_toArray, List.set_cons_zero, List.set_cons_succ]
      rfl
    refine pure_ (i := 20) (N := some 67) (v := ?_) (a' := ?_) (Far.bm 31 2097151) rfl rfl (any_of HT_.out (by kernel_rfl)) (fun _ _ _ h => h) (Or.inl ⟨by rfl, ?_⟩) ?_ ?_; rotate_left; (intro w'; go_simp; with_reducible rfl); rotate_left; (simp only [Act.put, List.setIfInBounds_toArray, List.set_cons_zero, List.set_cons_succ, i64_w, i32_w]; rfl)
    refine pure_ (i := 21) (N := some 68) (v := ?_) (a' := ?_) (Far.bm 31 4194303) rfl rfl (any_of HT_.out (by kernel_rfl)) (fun _ _ _ h => h) (Or.inl ⟨by rfl, ?_⟩) ?_ ?_; rotate_left; (intro w'; go_simp; with_reducible rfl); rotate_left; (simp only [Act.put, List.setIfInBounds_toArray, List.set_cons_zero, List.set_cons_succ, i64_w, i32_w]; rfl)
    refine pure_ (i := 22) (N := some 69) (v := ?_) (a' := ?_) (Far.bm 31 8388607) rfl rfl (any_of HT_.out (by kernel_rfl)) (fun _ _ _ h => h) (Or.inl ⟨by rfl, ?_⟩) ?_ ?_; rotate_left; (intro w'; go_simp; with_reducible rfl); rotate_left; (simp only [Act.put, List.setIfInBounds_toArray, List.set_cons_zero, List.set_cons_succ, i64_w, i32_w]; rfl)
    refine pure_ (i := 23) (N := some 70) (v := ?_) (a' := ?_) (Far.bm 31 16777215) rfl rfl (any_of HT_.out (by kernel_rfl)) (fun _ _ _ h => h) (Or.inl ⟨by rfl, ?_⟩) ?_ ?_; rotate_left; (intro w'; go_simp; with_reducible rfl); rotate_left; (simp only [Act.put, List.setIfInBounds_toArray, List.set_cons_zero, List.set_cons_succ, i64_w, i32_w]; rfl)
    refine pure_ (i := 25) (N := some 72) (v := ?_) (a' := ?_) (Far.bm 31 50331647) rfl rfl (any_of HT_.out (by kernel_rfl)) (fun _ _ _ h => h) (Or.inl ⟨by rfl, ?_⟩) ?_ ?_; rotate_left; (intro w'; go_simp; with_reducible rfl); rotate_left; (simp only [Act.put, List.setIfInBounds_toArray, List.set_cons_zero, List.set_cons_succ, i64_w, i32_w]; rfl)
    refine take_ (i := 26) (N := some 73) (v := ?_) (a' := ?_) (Far.bm 31 117440511) rfl rfl (take_ofW HT_.out HW_.out (by kernel_rfl)) (fun _ _ _ h => h) (Or.inl ⟨by rfl, ?_⟩) hHeld ?_ ?_; rotate_left; (rintro w' ⟨⟨s0, s1, s2, s3, s4, s5, s6, s7, s8, s9, s10, s11, s12, s13, s14⟩, s15, s16⟩; go_simp; with_reducible rfl); rotate_left; (simp only [Act.put, List.setIfInBounds_toArray, List.set_cons_zero, List.set_cons_succ, i64_w, i32_w]; rfl)
    refine pure_ (i := 27) (N := some 74) (v := ?_) (a' := ?_) (Far.bm 31 251658239) rfl rfl (any_of HT_.out (by kernel_rfl)) (fun _ _ _ h => h) (Or.inl ⟨by rfl, ?_⟩) ?_ ?_; rotate_left; (intro w'; go_simp; with_reducible rfl); rotate_left; (simp only [Act.put, List.setIfInBounds_toArray, List.set_cons_zero, List.set_cons_succ, i64_w, i32_w]; rfl)
    refine one_ (i := 24) (N := some 71) (Far.bm 31 268435455) rfl rfl (one_of HT_.out (by kernel_rfl)) (by decide) (fun K hK => ?_)
    refine goes_ Try.func22 (by kernel_rfl) rfl #[.pointer (some ⟨g, 0, none⟩)] (by rfl) rfl rfl (by first | (simp only [List.map_toArray, List.map_cons, List.map_nil]; done) | (simp only [List.map_toArray, List.map_cons, List.map_nil]; rfl)) ?_
    with_reducible refine (keep_loose w4 _ g _ _ _ _ _ _ (HSq.out.below HB4.out)).mono ?_
    rintro e w5 ⟨rfl, rfl⟩
    refine ⟨_, rfl, ?_⟩
    refine hK.out _ _ ⟨cells15 (blk_below HZq.out HB4.out), (own_string (P := Try.prog) Try.underlying22 Try.underlying5 Try.underlying9 (Kd.own_of_R (Kd.R_below HG1.out HB4.out))), (Kd.C_string (P := Try.prog) Try.underlying22 Try.underlying5 Try.underlying9 (Kd.C_below HG2.out HB4.out))⟩ (fun hHeld => ?_)
    clear hK K
    refine norm_ (a' := ?_) ?_ ?_; rotate_left; (show Act.put _ (some 71) _ = _; simp only [Act.put, List.setIfInBounds_toArray, List.set_cons_zero, List.set_cons_succ, i64_w, i32_w]; rfl)
    refine pure_ (i := 28) (N := some 75) (v := ?_) (a' := ?_) (Far.bm 31 536870911) rfl rfl (any_of HT_.out (by kernel_rfl)) (fun _ _ _ h => h) (Or.inl ⟨by rfl, ?_⟩) ?_ ?_; rotate_left; (intro w'; go_simp; with_reducible rfl); rotate_left; (simp only [Act.put, List.setIfInBounds_toArray, List.set_cons_zero, List.set_cons_succ, i64_w, i32_w]; rfl)
    refine pure_ (i := 29) (N := some 76) (v := ?_) (a' := ?_) (Far.bm 31 1073741823) rfl rfl (any_of HT_.out (by kernel_rfl)) (fun _ _ _ h => h) (Or.inl ⟨by rfl, ?_⟩) ?_ ?_; rotate_left; (intro w'; go_simp; with_reducible rfl); rotate_left; (simp only [Act.put, List.setIfInBounds_toArray, List.set_cons_zero, List.set_cons_succ, i64_w, i32_w]; rfl)
    refine pure_ (i := 30) (N := some 6) (v := ?_) (a' := ?_) (Far.bm 31 2147483647) rfl rfl (any_of HT_.out (by kernel_rfl)) (fun _ _ _ h => h) (Or.inl ⟨by rfl, ?_⟩) ?_ ?_; rotate_left; (intro w'; go_simp; with_reducible rfl); rotate_left; (simp only [Act.put, List.setIfInBounds_toArray, List.set_cons_zero, List.set_cons_succ, i64_w, i32_w]; rfl)
    refine done_ (done_of HT_.out (by kernel_rfl)) ?_
    go_wp2_with fail
    go_ret
    exact ⟨rfl, below_step HBZ.out (below_step HBq.out HB4.out)⟩
  | false =>
    have hr5 : ¬ r5 = 0 := of_decide_eq_false hisb
    clear hsame hisb h16
    go_wp2_with fail
    have HBq := HB3
    have HG2q := HG23
    have HG1d := HG1c
    clear HD5 HD6 HB3 HG23 t0 t1 t2 t3 t4 t5 t6 t7 t8 t9 t10 t11 t12 t13 t14
    generalize w3.alloc (.cells #[.int .u64 r1, .slice D1 r2.length d1, .int .u32 r3, .slice D3 r4.length d3] 66) = wq at HBq HG2q HG1c HG1d ⊢
    have HZq := Aside0.mk (blk_below HZ.out HBq.out)
    clear HG1 HG1b HG1c
    have HG1 := HG1d
    clear HG1d HB1 HB2
    have HSq := Aside0.mk (HSz.out.below HBq.out)
    have hbq := Nat.le_trans hbw HBq.out.size
    have HRq := Aside0.mk (HRz.out.step (Leaves.of_below HBq.out hbw))
    have HHR := Aside0.mk (fun W (hb : Below wq.heap.size wq W) => ref_held W b (Nat.le_trans hbq hb.size) [.slice Ah 512 ch, .slice Ac 512 cc, .bool isb, .int .u64 x, .slice V1 n1 c1, .int .u32 y, .slice V3 n3 c3, .slice Bh 512 ch2, .slice Bc 512 cc2, .bool false, .int .u64 x2, .slice V12 ss.length c12, .int .u32 y2, .slice V32 kn.length c32, .slice L steps.length cl] A1 A2 steps (HRq.out.step (Leaves.of_below hb hbq)))
    have HB1 := Aside0.mk (below_drew1 (Below.refl wq.heap.size wq))
    have HG2 := HG2q
    clear HSz HRz HTz HZ HG2q
    go_wp2_with fail
    refine start_ (n := 31) (S := fun w' => S15 gz (.slice Ah 512 ch) (.slice Ac 512 cc) (.bool isb) (.int .u64 x) (.slice V1 n1 c1) (.int .u32 y) (.slice V3 n3 c3) (.slice Bh 512 ch2) (.slice Bc 512 cc2) (.bool false) (.int .u64 x2) (.slice V12 ss.length c12) (.int .u32 y2) (.slice V32 kn.length c32) (.slice L steps.length cl) w' ∧ (convert 22 9 (.slice A1_ l1.length k1)).run Try.prog w' = .ok (.string (strOfNums l1)) w' ∧ (convert 22 9 (.slice B2 l1.length k2)).run Try.prog w' = .ok (.string (strOfNums l1)) w') (ds := []) (Far.bm 31 0) (by kernel_rfl) rfl rfl ⟨cells15 (blk_below HZq.out HB1.out), (own_string (P := Try.prog) Try.underlying22 Try.underlying5 Try.underlying9 (Kd.own_of_R (Kd.R_below HG1.out HB1.out))), (Kd.C_string (P := Try.prog) Try.underlying22 Try.underlying5 Try.underlying9 (Kd.C_below HG2.out HB1.out))⟩ (fun hHeld => ?_)
    refine with_tabW like.tab5 like.bits5 (fun HT_ HW_ => ?_)
    refine pure_ (i := 0) (N := some 47) (v := ?_) (a' := ?_) (Far.bm 31 1) rfl rfl (any_of HT_.out (by kernel_rfl)) (fun _ _ _ h => h) (Or.inl ⟨by rfl, ?_⟩) ?_ ?_; rotate_left; (intro w'; go_simp; with_reducible rfl); rotate_left; (simp only [Act.put, List.setIfInBounds_toArray, List.set_cons_zero, List.set_cons_succ, i64_w, i32_w]; rfl)
    refine pure_ (i := 2) (N := some 49) (v := ?_) (a' := ?_) (Far.bm 31 5) rfl rfl (any_of HT_.out (by kernel_rfl)) (fun _ _ _ h => h) (Or.inl ⟨by rfl, ?_⟩) ?_ ?_; rotate_left; (intro w'; go_simp; with_reducible rfl); rotate_left; (simp only [Act.put, List.setIfInBounds_toArray, List.set_cons_zero, List.set_cons_succ, i64_w, i32_w]; rfl)
    refine take_ (i := 1) (N := some 48) (v := ?_) (a' := ?_) (Far.bm 31 7) rfl rfl (take_ofW HT_.out HW_.out (by kernel_rfl)) (fun _ _ _ h => h) (Or.inl ⟨by rfl, ?_⟩) hHeld ?_ ?_; rotate_left; (rintro w' ⟨⟨s0, s1, s2, s3, s4, s5, s6, s7, s8, s9, s10, s11, s12, s13, s14⟩, s15, s16⟩; go_simp; with_reducible rfl); rotate_left; (simp only [Act.put, List.setIfInBounds_toArray, List.set_cons_zero, List.set_cons_succ, i64_w, i32_w]; rfl)
    refine take_ (i := 3) (N := some 50) (v := ?_) (a' := ?_) (Far.bm 31 15) rfl rfl (take_ofW HT_.out HW_.out (by kernel_rfl)) (fun _ _ _ h => h) (Or.inl ⟨by rfl, ?_⟩) hHeld ?_ ?_; rotate_left; (rintro w' ⟨⟨s0, s1, s2, s3, s4, s5, s6, s7, s8, s9, s10, s11, s12, s13, s14⟩, s15, s16⟩; go_simp; with_reducible rfl); rotate_left; (simp only [Act.put, List.setIfInBounds_toArray, List.set_cons_zero, List.set_cons_succ, i64_w, i32_w]; rfl)
    refine pure_ (i := 4) (N := some 51) (v := ?_) (a' := ?_) (Far.bm 31 31) rfl rfl (any_of HT_.out (by kernel_rfl)) (fun _ _ _ h => h) (Or.inl ⟨by rfl, ?_⟩) ?_ ?_; rotate_left; (intro w'; go_simp; with_reducible rfl); rotate_left; (simp only [Act.put, List.setIfInBounds_toArray, List.set_cons_zero, List.set_cons_succ, i64_w, i32_w]; rfl)
    refine pure_ (i := 5) (N := some 52) (v := ?_) (a' := ?_) (Far.bm 31 63) rfl rfl (any_of HT_.out (by kernel_rfl)) (fun _ _ _ h => h) (Or.inl ⟨by rfl, ?_⟩) ?_ ?_; rotate_left; (intro w'; go_simp; with_reducible rfl); rotate_left; (simp only [Act.put, List.setIfInBounds_toArray, List.set_cons_zero, List.set_cons_succ, i64_w, i32_w]; rfl)
    refine pure_ (i := 6) (N := some 53) (v := ?_) (a' := ?_) (Far.bm 31 127) rfl rfl (any_of HT_.out (by kernel_rfl)) (fun _ _ _ h => h) (Or.inl ⟨by rfl, ?_⟩) ?_ ?_; rotate_left; (intro w'; go_simp; with_reducible rfl); rotate_left; (simp only [Act.put, List.setIfInBounds_toArray, List.set_cons_zero, List.set_cons_succ, i64_w, i32_w]; rfl)
    refine pure_ (i := 7) (N := some 54) (v := ?_) (a' := ?_) (Far.bm 31 255) rfl rfl (any_of HT_.out (by kernel_rfl)) (fun _ _ _ h => h) (Or.inl ⟨by rfl, ?_⟩) ?_ ?_; rotate_left; (intro w'; go_simp; with_reducible rfl); rotate_left; (simp only [Act.put, List.setIfInBounds_toArray, List.set_cons_zero, List.set_cons_succ, i64_w, i32_w]; rfl)
    refine pure_ (i := 8) (N := some 55) (v := ?_) (a' := ?_) (Far.bm 31 511) rfl rfl (any_of HT_.out (by kernel_rfl)) (fun _ _ _ h => h) (Or.inl ⟨by rfl, ?_⟩) ?_ ?_; rotate_left; (intro w'; go_simp; with_reducible rfl); rotate_left; (simp only [Act.put, List.setIfInBounds_toArray, List.set_cons_zero, List.set_cons_succ, i64_w, i32_w]; rfl)
    refine pure_ (i := 9) (N := some 56) (v := ?_) (a' := ?_) (Far.bm 31 1023) rfl rfl (any_of HT_.out (by kernel_rfl)) (fun _ _ _ h => h) (Or.inl ⟨by rfl, ?_⟩) ?_ ?_; rotate_left; (intro w'; go_simp; with_reducible rfl); rotate_left; (simp only [Act.put, List.setIfInBounds_toArray, List.set_cons_zero, List.set_cons_succ, i64_w, i32_w]; rfl)
    refine pure_ (i := 10) (N := some 57) (v := ?_) (a' := ?_) (Far.bm 31 2047) rfl rfl (any_of HT_.out (by kernel_rfl)) (fun _ _ _ h => h) (Or.inl ⟨by rfl, ?_⟩) ?_ ?_; rotate_left; (intro w'; go_simp; with_reducible rfl); rotate_left; (simp only [Act.put, List.setIfInBounds_toArray, List.set_cons_zero, List.set_cons_succ, i64_w, i32_w]; rfl)
    refine pure_ (i := 11) (N := some 58) (v := ?_) (a' := ?_) (Far.bm 31 4095) rfl rfl (any_of HT_.out (by kernel_rfl)) (fun _ _ _ h => h) (Or.inl ⟨by rfl, ?_⟩) ?_ ?_; rotate_left; (intro w'; go_simp; with_reducible rfl); rotate_left; (simp only [Act.put, List.setIfInBounds_toArray, List.set_cons_zero, List.set_cons_succ, i64_w, i32_w]; rfl)
    refine pure_ (i := 12) (N := some 59) (v := ?_) (a' := ?_) (Far.bm 31 8191) rfl rfl (any_of HT_.out (by kernel_rfl)) (fun _ _ _ h => h) (Or.inl ⟨by rfl, ?_⟩) ?_ ?_; rotate_left; (intro w'; go_simp; with_reducible rfl); rotate_left; (simp only [Act.put, List.setIfInBounds_toArray, List.set_cons_zero, List.set_cons_succ, i64_w, i32_w]; rfl)
    refine pure_ (i := 13) (N := some 60) (v := ?_) (a' := ?_) (Far.bm 31 16383) rfl rfl (any_of HT_.out (by kernel_rfl)) (fun _ _ _ h => h) (Or.inl ⟨by rfl, ?_⟩) ?_ ?_; rotate_left; (intro w'; go_simp; with_reducible rfl); rotate_left; (simp only [Act.put, List.setIfInBounds_toArray, List.set_cons_zero, List.set_cons_succ, i64_w, i32_w]; rfl)
    refine pure_ (i := 14) (N := some 61) (v := ?_) (a' := ?_) (Far.bm 31 32767) rfl rfl (any_of HT_.out (by kernel_rfl)) (fun _ _ _ h => h) (Or.inl ⟨by rfl, ?_⟩) ?_ ?_; rotate_left; (intro w'; go_simp; with_reducible rfl); rotate_left; (simp only [Act.put, List.setIfInBounds_toArray, List.set_cons_zero, List.set_cons_succ, i64_w, i32_w]; rfl)
    refine take_ (i := 17) (N := some 64) (v := ?_) (a' := ?_) (Far.bm 31 163839) rfl rfl (take_ofW HT_.out HW_.out (by kernel_rfl)) (fun _ _ _ h => h) (Or.inl ⟨by rfl, ?_⟩) hHeld ?_ ?_; rotate_left; (rintro w' ⟨⟨s0, s1, s2, s3, s4, s5, s6, s7, s8, s9, s10, s11, s12, s13, s14⟩, s15, s16⟩; go_simp; with_reducible rfl); rotate_left; (simp only [Act.put, List.setIfInBounds_toArray, List.set_cons_zero, List.set_cons_succ, i64_w, i32_w]; rfl)
    refine one_ (i := 15) (N := some 62) (Far.bm 31 196607) rfl rfl (one_of HT_.out (by kernel_rfl)) (by decide) (fun K hK => ?_)
    refine goes_ Try.func18 (by kernel_rfl) rfl #[.pointer (some ⟨g, 0, none⟩)] (by rfl) rfl rfl (by first | (simp only [List.map_toArray, List.map_cons, List.map_nil]; done) | (simp only [List.map_toArray, List.map_cons, List.map_nil]; rfl)) ?_
    with_reducible refine (keep_held wq.drew _ g _ _ _ _ _ _ (HSq.out.below (below_drew1 (Below.refl wq.heap.size wq)))).mono ?_
    rintro e w2 ⟨v2, lh, rfl, hR2, hl2, hby2, hbits2, hb⟩
    refine ⟨_, rfl, ?_⟩
    obtain ⟨A2_, k2_, e2_⟩ := Kd.R_slice hR2
    subst e2_
    have HLH := Aside0.mk (And.intro hl2 (And.intro hby2 hbits2))
    have HRK := Aside0.mk hR2
    have HB2 := Aside0.mk (below_step HB1.out hb)
    have hstrK := own_string (P := Try.prog) Try.underlying22 Try.underlying5 Try.underlying9 (Kd.own_of_R hR2)
    clear hb hR2 hl2 hby2 hbits2
    refine hK.out _ _ ⟨cells15 (blk_below HZq.out HB2.out), (own_string (P := Try.prog) Try.underlying22 Try.underlying5 Try.underlying9 (Kd.own_of_R (Kd.R_below HG1.out HB2.out))), (Kd.C_string (P := Try.prog) Try.underlying22 Try.underlying5 Try.underlying9 (Kd.C_below HG2.out HB2.out))⟩ (fun hHeld => ?_)
    clear hK K
    refine norm_ (a' := ?_) ?_ ?_; rotate_left; (show Act.put _ (some 62) _ = _; simp only [Act.put, List.setIfInBounds_toArray, List.set_cons_zero, List.set_cons_succ, i64_w, i32_w]; rfl)
    refine join_ (σ := Option Addr × Nat) 11 (Far.bm 31 1048575) (fun s => [(63, .string (strOfNums lh)), (65, .slice s.1 lh.length s.2), (66, .string (strOfNums lh))]) (fun s w' => Below wq.heap.size wq w') ?_ ?_
    rotate_left
    · intro hCont
      refine two_ (i := 16) (j := 18) (Ni := some 63) (Nj := some 65) (Far.bm 31 262143) (Far.bm 31 458751) rfl rfl rfl rfl (two_of HT_.out (by kernel_rfl)) (by decide) (by decide) (fun K hK => ?_) (fun K hK => ?_)
      · skip
        refine value_ (w1 := ?_) (v := ?_) (by rfl) rfl ?_ ?_
        rotate_left 2
        · go_simp
          constructor
          · rfl
          · rfl
        refine hK.out _ _ ⟨cells15 (blk_below HZq.out HB2.out), (own_string (P := Try.prog) Try.underlying22 Try.underlying5 Try.underlying9 (Kd.own_of_R (Kd.R_below HG1.out HB2.out))), (Kd.C_string (P := Try.prog) Try.underlying22 Try.underlying5 Try.underlying9 (Kd.C_below HG2.out HB2.out))⟩ (fun hHeld => ?_)
        clear hK K
        refine norm_ (a' := ?_) ?_ ?_; rotate_left; (show Act.put _ (some 63) _ = _; simp only [Act.put, List.setIfInBounds_toArray, List.set_cons_zero, List.set_cons_succ, i64_w, i32_w]; rfl)
        refine one_ (i := 18) (N := some 65) (Far.bm 31 524287) rfl rfl (one_of HT_.out (by kernel_rfl)) (by decide) (fun K hK => ?_)
        refine goes_ Try.func120 (by kernel_rfl) rfl #[.agg #[.slice Ah 512 ch, .slice Ac 512 cc, .bool isb, .int .u64 x, .slice V1 n1 c1, .int .u32 y, .slice V3 n3 c3, .slice Bh 512 ch2, .slice Bc 512 cc2, .bool false, .int .u64 x2, .slice V12 ss.length c12, .int .u32 y2, .slice V32 kn.length c32, .slice L steps.length cl]] (by rfl) rfl rfl (by first | (simp only [List.map_toArray, List.map_cons, List.map_nil]; done) | (simp only [List.map_toArray, List.map_cons, List.map_nil]; rfl)) ?_
        with_reducible refine (HHR.out _ HB2.out).mono ?_
        rintro e w3 ⟨v3, l3, rfl, hR3, hl3, hby3, hbits3, hb⟩
        refine ⟨_, rfl, ?_⟩
        obtain ⟨A3, k3, e3_⟩ := Kd.R_slice hR3
        subst e3_
        obtain rfl : l3 = lh := B_ext hby3 HLH.out.2.1 (hl3.trans HLH.out.1.symm) (fun j hj => (hbits3 j (by omega)).trans (HLH.out.2.2 j (by omega)).symm)
        have HB3 := Aside0.mk (below_step HB2.out hb)
        have hstrR := own_string (P := Try.prog) Try.underlying22 Try.underlying5 Try.underlying9 (Kd.own_of_R hR3)
        have hstrK3 := own_string (P := Try.prog) Try.underlying22 Try.underlying5 Try.underlying9 (Kd.own_of_R (Kd.R_below HRK.out hb))
        clear hb hR3 hl3 hby3 hbits3
        refine hK.out _ _ ⟨cells15 (blk_below HZq.out HB3.out), (own_string (P := Try.prog) Try.underlying22 Try.underlying5 Try.underlying9 (Kd.own_of_R (Kd.R_below HG1.out HB3.out))), (Kd.C_string (P := Try.prog) Try.underlying22 Try.underlying5 Try.underlying9 (Kd.C_below HG2.out HB3.out))⟩ (fun hHeld => ?_)
        clear hK K
        refine norm_ (a' := ?_) ?_ ?_; rotate_left; (show Act.put _ (some 65) _ = _; simp only [Act.put, List.setIfInBounds_toArray, List.set_cons_zero, List.set_cons_succ, i64_w, i32_w]; rfl)
        refine one_ (i := 19) (N := some 66) (Far.bm 31 1048575) rfl rfl (one_of HT_.out (by kernel_rfl)) (by decide) (fun K hK => ?_)
        refine value_ (w1 := ?_) (v := ?_) (by rfl) rfl ?_ ?_
        rotate_left 2
        · go_simp
          constructor
          · rfl
          · rfl
        refine hK.out _ _ ⟨cells15 (blk_below HZq.out HB3.out), (own_string (P := Try.prog) Try.underlying22 Try.underlying5 Try.underlying9 (Kd.own_of_R (Kd.R_below HG1.out HB3.out))), (Kd.C_string (P := Try.prog) Try.underlying22 Try.underlying5 Try.underlying9 (Kd.C_below HG2.out HB3.out))⟩ (fun hHeld => ?_)
        clear hK K
        refine norm_ (a' := ?_) ?_ ?_; rotate_left; (show Act.put _ (some 66) _ = _; simp only [Act.put, List.setIfInBounds_toArray, List.set_cons_zero, List.set_cons_succ, i64_w, i32_w]; rfl)
        exact norm_ (by simp only [putAll, Act.put, List.setIfInBounds_toArray, List.set_cons_zero, List.set_cons_succ]) (hCont (A3, k3) _ HB3.out)
      · skip
        refine goes_ Try.func120 (by kernel_rfl) rfl #[.agg #[.slice Ah 512 ch, .slice Ac 512 cc, .bool isb, .int .u64 x, .slice V1 n1 c1, .int .u32 y, .slice V3 n3 c3, .slice Bh 512 ch2, .slice Bc 512 cc2, .bool false, .int .u64 x2, .slice V12 ss.length c12, .int .u32 y2, .slice V32 kn.length c32, .slice L steps.length cl]] (by rfl) rfl rfl (by first | (simp only [List.map_toArray, List.map_cons, List.map_nil]; done) | (simp only [List.map_toArray, List.map_cons, List.map_nil]; rfl)) ?_
        with_reducible refine (HHR.out _ HB2.out).mono ?_
        rintro e w3 ⟨v3, l3, rfl, hR3, hl3, hby3, hbits3, hb⟩
        refine ⟨_, rfl, ?_⟩
        obtain ⟨A3, k3, e3_⟩ := Kd.R_slice hR3
        subst e3_
        obtain rfl : l3 = lh := B_ext hby3 HLH.out.2.1 (hl3.trans HLH.out.1.symm) (fun j hj => (hbits3 j (by omega)).trans (HLH.out.2.2 j (by omega)).symm)
        have HB3 := Aside0.mk (below_step HB2.out hb)
        have hstrR := own_string (P := Try.prog) Try.underlying22 Try.underlying5 Try.underlying9 (Kd.own_of_R hR3)
        have hstrK3 := own_string (P := Try.prog) Try.underlying22 Try.underlying5 Try.underlying9 (Kd.own_of_R (Kd.R_below HRK.out hb))
        clear hb hR3 hl3 hby3 hbits3
        refine hK.out _ _ ⟨cells15 (blk_below HZq.out HB3.out), (own_string (P := Try.prog) Try.underlying22 Try.underlying5 Try.underlying9 (Kd.own_of_R (Kd.R_below HG1.out HB3.out))), (Kd.C_string (P := Try.prog) Try.underlying22 Try.underlying5 Try.underlying9 (Kd.C_below HG2.out HB3.out))⟩ (fun hHeld => ?_)
        clear hK K
        refine norm_ (a' := ?_) ?_ ?_; rotate_left; (show Act.put _ (some 65) _ = _; simp only [Act.put, List.setIfInBounds_toArray, List.set_cons_zero, List.set_cons_succ, i64_w, i32_w]; rfl)
        refine two_ (i := 16) (j := 19) (Ni := some 63) (Nj := some 66) (Far.bm 31 524287) (Far.bm 31 983039) rfl rfl rfl rfl (two_of HT_.out (by kernel_rfl)) (by decide) (by decide) (fun K hK => ?_) (fun K hK => ?_)
        · skip
          refine value_ (w1 := ?_) (v := ?_) (by rfl) rfl ?_ ?_
          rotate_left 2
          · go_simp
            constructor
            · rfl
            · rfl
          refine hK.out _ _ ⟨cells15 (blk_below HZq.out HB3.out), (own_string (P := Try.prog) Try.underlying22 Try.underlying5 Try.underlying9 (Kd.own_of_R (Kd.R_below HG1.out HB3.out))), (Kd.C_string (P := Try.prog) Try.underlying22 Try.underlying5 Try.underlying9 (Kd.C_below HG2.out HB3.out))⟩ (fun hHeld => ?_)
          clear hK K
          refine norm_ (a' := ?_) ?_ ?_; rotate_left; (show Act.put _ (some 63) _ = _; simp only [Act.put, List.setIfInBounds_toArray, List.set_cons_zero, List.set_cons_succ, i64_w, i32_w]; rfl)
          refine one_ (i := 19) (N := some 66) (Far.bm 31 1048575) rfl rfl (one_of HT_.out (by kernel_rfl)) (by decide) (fun K hK => ?_)
          refine value_ (w1 := ?_) (v := ?_) (by rfl) rfl ?_ ?_
          rotate_left 2
          · go_simp
            constructor
            · rfl
            · rfl
          refine hK.out _ _ ⟨cells15 (blk_below HZq.out HB3.out), (own_string (P := Try.prog) Try.underlying22 Try.underlying5 Try.underlying9 (Kd.own_of_R (Kd.R_below HG1.out HB3.out))), (Kd.C_string (P := Try.prog) Try.underlying22 Try.underlying5 Try.underlying9 (Kd.C_below HG2.out HB3.out))⟩ (fun hHeld => ?_)
          clear hK K
          refine norm_ (a' := ?_) ?_ ?_; rotate_left; (show Act.put _ (some 66) _ = _; simp only [Act.put, List.setIfInBounds_toArray, List.set_cons_zero, List.set_cons_succ, i64_w, i32_w]; rfl)
          exact norm_ (by simp only [putAll, Act.put, List.setIfInBounds_toArray, List.set_cons_zero, List.set_cons_succ]) (hCont (A3, k3) _ HB3.out)
        · skip
          refine value_ (w1 := ?_) (v := ?_) (by rfl) rfl ?_ ?_
          rotate_left 2
          · go_simp
            constructor
            · rfl
            · rfl
          refine hK.out _ _ ⟨cells15 (blk_below HZq.out HB3.out), (own_string (P := Try.prog) Try.underlying22 Try.underlying5 Try.underlying9 (Kd.own_of_R (Kd.R_below HG1.out HB3.out))), (Kd.C_string (P := Try.prog) Try.underlying22 Try.underlying5 Try.underlying9 (Kd.C_below HG2.out HB3.out))⟩ (fun hHeld => ?_)
          clear hK K
          refine norm_ (a' := ?_) ?_ ?_; rotate_left; (show Act.put _ (some 66) _ = _; simp only [Act.put, List.setIfInBounds_toArray, List.set_cons_zero, List.set_cons_succ, i64_w, i32_w]; rfl)
          refine one_ (i := 16) (N := some 63) (Far.bm 31 1048575) rfl rfl (one_of HT_.out (by kernel_rfl)) (by decide) (fun K hK => ?_)
          refine value_ (w1 := ?_) (v := ?_) (by rfl) rfl ?_ ?_
          rotate_left 2
          · go_simp
            constructor
            · rfl
            · rfl
          refine hK.out _ _ ⟨cells15 (blk_below HZq.out HB3.out), (own_string (P := Try.prog) Try.underlying22 Try.underlying5 Try.underlying9 (Kd.own_of_R (Kd.R_below HG1.out HB3.out))), (Kd.C_string (P := Try.prog) Try.underlying22 Try.underlying5 Try.underlying9 (Kd.C_below HG2.out HB3.out))⟩ (fun hHeld => ?_)
          clear hK K
          refine norm_ (a' := ?_) ?_ ?_; rotate_left; (show Act.put _ (some 63) _ = _; simp only [Act.put, List.setIfInBounds_toArray, List.set_cons_zero, List.set_cons_succ, i64_w, i32_w]; rfl)
          exact norm_ (by simp only [putAll, Act.put, List.setIfInBounds_toArray, List.set_cons_zero, List.set_cons_succ]) (hCont (A3, k3) _ HB3.out)
    rintro ⟨A3, k3⟩ w4 hb4
    have HB4 := Aside0.mk hb4
    have hHeld : S15 gz (.slice Ah 512 ch) (.slice Ac 512 cc) (.bool isb) (.int .u64 x) (.slice V1 n1 c1) (.int .u32 y) (.slice V3 n3 c3) (.slice Bh 512 ch2) (.slice Bc 512 cc2) (.bool false) (.int .u64 x2) (.slice V12 ss.length c12) (.int .u32 y2) (.slice V32 kn.length c32) (.slice L steps.length cl) w4 ∧ (convert 22 9 (.slice A1_ l1.length k1)).run Try.prog w4 = .ok (.string (strOfNums l1)) w4 ∧ (convert 22 9 (.slice B2 l1.length k2)).run Try.prog w4 = .ok (.string (strOfNums l1)) w4 := ⟨cells15 (blk_below HZq.out HB4.out), (own_string (P := Try.prog) Try.underlying22 Try.underlying5 Try.underlying9 (Kd.own_of_R (Kd.R_below HG1.out HB4.out))), (Kd.C_string (P := Try.prog) Try.underlying22 Try.underlying5 Try.underlying9 (Kd.C_below HG2.out HB4.out))⟩
    clear hb4
    refine norm_ (a' := ?_) ?_ ?_
    rotate_left
    · simp only [putAll, Act.put, List.setIfInBounds_toArray, List.set_cons_zero, List.set_cons_succ]
      rfl
    refine pure_ (i := 20) (N := some 67) (v := ?_) (a' := ?_) (Far.bm 31 2097151) rfl rfl (any_of HT_.out (by kernel_rfl)) (fun _ _ _ h => h) (Or.inl ⟨by rfl, ?_⟩) ?_ ?_; rotate_left; (intro w'; go_simp; with_reducible rfl); rotate_left; (simp only [Act.put, List.setIfInBounds_toArray, List.set_cons_zero, List.set_cons_succ, i64_w, i32_w]; rfl)
    refine pure_ (i := 21) (N := some 68) (v := ?_) (a' := ?_) (Far.bm 31 4194303) rfl rfl (any_of HT_.out (by kernel_rfl)) (fun _ _ _ h => h) (Or.inl ⟨by rfl, ?_⟩) ?_ ?_; rotate_left; (intro w'; go_simp; with_reducible rfl); rotate_left; (simp only [Act.put, List.setIfInBounds_toArray, List.set_cons_zero, List.set_cons_succ, i64_w, i32_w]; rfl)
    refine pure_ (i := 22) (N := some 69) (v := ?_) (a' := ?_) (Far.bm 31 8388607) rfl rfl (any_of HT_.out (by kernel_rfl)) (fun _ _ _ h => h) (Or.inl ⟨by rfl, ?_⟩) ?_ ?_; rotate_left; (intro w'; go_simp; with_reducible rfl); rotate_left; (simp only [Act.put, List.setIfInBounds_toArray, List.set_cons_zero, List.set_cons_succ, i64_w, i32_w]; rfl)
    refine pure_ (i := 23) (N := some 70) (v := ?_) (a' := ?_) (Far.bm 31 16777215) rfl rfl (any_of HT_.out (by kernel_rfl)) (fun _ _ _ h => h) (Or.inl ⟨by rfl, ?_⟩) ?_ ?_; rotate_left; (intro w'; go_simp; with_reducible rfl); rotate_left; (simp only [Act.put, List.setIfInBounds_toArray, List.set_cons_zero, List.set_cons_succ, i64_w, i32_w]; rfl)
    refine pure_ (i := 25) (N := some 72) (v := ?_) (a' := ?_) (Far.bm 31 50331647) rfl rfl (any_of HT_.out (by kernel_rfl)) (fun _ _ _ h => h) (Or.inl ⟨by rfl, ?_⟩) ?_ ?_; rotate_left; (intro w'; go_simp; with_reducible rfl); rotate_left; (simp only [Act.put, List.setIfInBounds_toArray, List.set_cons_zero, List.set_cons_succ, i64_w, i32_w]; rfl)
    refine take_ (i := 26) (N := some 73) (v := ?_) (a' := ?_) (Far.bm 31 117440511) rfl rfl (take_ofW HT_.out HW_.out (by kernel_rfl)) (fun _ _ _ h => h) (Or.inl ⟨by rfl, ?_⟩) hHeld ?_ ?_; rotate_left; (rintro w' ⟨⟨s0, s1, s2, s3, s4, s5, s6, s7, s8, s9, s10, s11, s12, s13, s14⟩, s15, s16⟩; go_simp; with_reducible rfl); rotate_left; (simp only [Act.put, List.setIfInBounds_toArray, List.set_cons_zero, List.set_cons_succ, i64_w, i32_w]; rfl)
    refine pure_ (i := 27) (N := some 74) (v := ?_) (a' := ?_) (Far.bm 31 251658239) rfl rfl (any_of HT_.out (by kernel_rfl)) (fun _ _ _ h => h) (Or.inl ⟨by rfl, ?_⟩) ?_ ?_; rotate_left; (intro w'; go_simp; with_reducible rfl); rotate_left; (simp only [Act.put, List.setIfInBounds_toArray, List.set_cons_zero, List.set_cons_succ, i64_w, i32_w]; rfl)
    refine one_ (i := 24) (N := some 71) (Far.bm 31 268435455) rfl rfl (one_of HT_.out (by kernel_rfl)) (by decide) (fun K hK => ?_)
    refine goes_ Try.func22 (by kernel_rfl) rfl #[.pointer (some ⟨g, 0, none⟩)] (by rfl) rfl rfl (by first | (simp only [List.map_toArray, List.map_cons, List.map_nil]; done) | (simp only [List.map_toArray, List.map_cons, List.map_nil]; rfl)) ?_
    with_reducible refine (keep_loose w4 _ g _ _ _ _ _ _ (HSq.out.below HB4.out)).mono ?_
    rintro e w5 ⟨rfl, rfl⟩
    refine ⟨_, rfl, ?_⟩
    refine hK.out _ _ ⟨cells15 (blk_below HZq.out HB4.out), (own_string (P := Try.prog) Try.underlying22 Try.underlying5 Try.underlying9 (Kd.own_of_R (Kd.R_below HG1.out HB4.out))), (Kd.C_string (P := Try.prog) Try.underlying22 Try.underlying5 Try.underlying9 (Kd.C_below HG2.out HB4.out))⟩ (fun hHeld => ?_)
    clear hK K
    refine norm_ (a' := ?_) ?_ ?_; rotate_left; (show Act.put _ (some 71) _ = _; simp only [Act.put, List.setIfInBounds_toArray, List.set_cons_zero, List.set_cons_succ, i64_w, i32_w]; rfl)
    refine pure_ (i := 28) (N := some 75) (v := ?_) (a' := ?_) (Far.bm 31 536870911) rfl rfl (any_of HT_.out (by kernel_rfl)) (fun _ _ _ h => h) (Or.inl ⟨by rfl, ?_⟩) ?_ ?_; rotate_left; (intro w'; go_simp; with_reducible rfl); rotate_left; (simp only [Act.put, List.setIfInBounds_toArray, List.set_cons_zero, List.set_cons_succ, i64_w, i32_w]; rfl)
    refine pure_ (i := 29) (N := some 76) (v := ?_) (a' := ?_) (Far.bm 31 1073741823) rfl rfl (any_of HT_.out (by kernel_rfl)) (fun _ _ _ h => h) (Or.inl ⟨by rfl, ?_⟩) ?_ ?_; rotate_left; (intro w'; go_simp; with_reducible rfl); rotate_left; (simp only [Act.put, List.setIfInBounds_toArray, List.set_cons_zero, List.set_cons_succ, i64_w, i32_w]; rfl)
    refine pure_ (i := 30) (N := some 6) (v := ?_) (a' := ?_) (Far.bm 31 2147483647) rfl rfl (any_of HT_.out (by kernel_rfl)) (fun _ _ _ h => h) (Or.inl ⟨by rfl, ?_⟩) ?_ ?_; rotate_left; (intro w'; go_simp; with_reducible rfl); rotate_left; (simp only [Act.put, List.setIfInBounds_toArray, List.set_cons_zero, List.set_cons_succ, i64_w, i32_w]; rfl)
    refine done_ (done_of HT_.out (by kernel_rfl)) ?_
    go_wp2_with fail
    go_ret
    exact ⟨rfl, below_step HBZ.out (below_step HBq.out HB4.out)⟩
end Go.Proofs.Ytliohoalackhiaa.T
