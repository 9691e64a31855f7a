/- slices.Clone of steps, and Copy of a store. -/
import Derived.Test.YtliohoalackhiaaKEKeepJ
import Derived.Deep.RegionWith
namespace Go.Proofs.Ytliohoalackhiaa.E
open Go.ChangeMaps hiding rd
open Go.RowKit Go.Maps Go.Proofs.YtliohoalackhiaaW.PrintWords Go.Proofs.YtliohoalackhiaaW.PrintLast Go.Proofs.YtliohoalackhiaaW.PrintMore Go.Proofs.Ytliohoalackhiaa.Num
set_option linter.unusedVariables false
set_option linter.unusedSimpArgs false
set_option maxRecDepth 100000 in
set_option maxHeartbeats 4000000 in
theorem clone_steps (L : Option Addr) (n cl : Nat) (rows : List (List Value)) (w : World) (hn : n = rows.length) (hr0 : Kd.C (Kd.raw 1) w L rows.length rows) (hc0 : n ≤ cl) (hl : rows.length < 2000000) :
    Calls Try.prog 75 #[.slice L n cl] w fun e w' => ∃ v : Value, e = .returned v ∧ (Kd.raw 1).R 119 w' w.heap.size (fun _ => True) v rows ∧ Below w.heap.size w w' := by
  subst hn
  have HL := Aside0.mk hl
  have HR0 := Aside0.mk hr0
  clear hl hr0
  cases L with
  | none =>
    have hz : rows.length = 0 := by
      rcases Nat.eq_zero_or_pos rows.length with h0 | h0
      · exact h0
      · obtain ⟨ad, h, _⟩ := HR0.out.2.2 h0; cases h
    obtain rfl : rows = [] := List.eq_nil_of_length_eq_zero hz
    have hnil : ∀ w : World, (binOp .eql 110 (.slice none 0 cl) (.slice none 0 0)).run Try.prog w = .ok (.bool true) w := fun w => Go.run_eql_slice_nil (P := Try.prog) w 110 119 none 0 cl Try.underlying110
    go_enter Try.func75, Try.ntmps75
    go_wp2
    go_ret
    exact ⟨_, rfl, Kd.R_nil _ _ _ _ _, Below.refl _ _⟩
  | some ad =>
    have hnil : ∀ w : World, (binOp .eql 110 (.slice (some ad) rows.length cl) (.slice none 0 0)).run Try.prog w = .ok (.bool false) w := fun w => Go.run_eql_slice_nil (P := Try.prog) w 110 119 (some ad) rows.length cl Try.underlying110
    go_enter Try.func75, Try.ntmps75
    have HO0 : (Kd.raw 1).R 119 (w.alloc (.cells #[] 119)) w.heap.size (fun _ => True) (.slice (some ⟨w.heap.size, 0, none⟩) 0 0) ([] : List (List Value)) := by
      have hm := own_made w w.heap.size 119 .i64 0 (Nat.le_refl _) (by omega)
      have he : (madeCells #[Value.int .i64 0] 0) = #[] := by kernel_rfl
      rw [he] at hm
      exact ⟨fun _ _ => trivial, [], hm, Reps.none _ _⟩
    have HO := Aside0.mk HO0
    clear HO0
    go_wp2_with (at_builtin; go_loud (refine Kd.R_append_rows (Kd.raw 1) (w0 := w) w.heap.size rfl (.tmp 5) (.tmp 6) 110 119 .nilFunc 8 rfl Try.underlying110 infoStep rfl (by decide) (by omega) (.slice (some ⟨w.heap.size, 0, none⟩) 0 0) ([] : List (List Value)) rows _ _ _ (fun _ => True) (fun _ => False) rfl rfl ?aO ?aR (fun _ _ h => h) (fun _ h => h.elim) ?aF ?aB ?aS ?aL ?_); (case aR => go_must (exact Kd.C_alloc HR0.out _)); (case aB => go_must (exact (Below.refl _ _).alloc (Nat.le_refl _) _)); (case aF => exact (fun _ _ => trivial)); (case aS => go_must (simp)); (case aL => go_must (have := HL.out; (try simp only [List.length_nil]); omega)); (case aO => go_must (exact HO.out)); intro v1 w1 ho hb hg hat)
    go_ret
    exact ⟨_, rfl, ho, hb⟩
theorem mapIs_below {w w1 : World} {m : Nat} {H : Hist} (h : MapIs w m H) (hb : Below w.heap.size w w1) : MapIs w1 m H := h.step (softKept_below hb) (hb.block m h.lt)
set_option maxRecDepth 100000 in
set_option maxHeartbeats 4000000 in
theorem keep_copy (w : World) (base g m1 m2 : Nat) (lo : Value) (A1 A2 : Hist × List Int) (steps : List Step) (h : Sto w base g m1 m2 lo A1 A2 steps) (hs : steps.length < 1000000) :
    Calls Try.prog 25 #[.pointer (some ⟨g, 0, none⟩)] w fun e w' => ∃ gc m1c m2c loc, e = .returned (.pointer (some ⟨gc, 0, none⟩)) ∧ Sto w' w.heap.size gc m1c m2c loc A1 A2 steps ∧ Below w.heap.size w w' := by
  obtain ⟨⟨t1, t2, hgc, r1, r2⟩, h1, h2, ne, bg, b1, b2, fs, hR, hfs⟩ := h
  have HC1 : Aside0 (∀ W, Below w.heap.size w W → Calls Try.prog 70 #[.agg #[.map (some m1), t1]] W fun e w' => ∃ m', e = .returned (.agg #[.map (some m'), t1]) ∧ W.heap.size ≤ m' ∧ MapIs w' m' A1.1 ∧ Below W.heap.size W w') :=
    ⟨fun W hb => copied_any W m1 A1.1 t1 A1.2 (mapIs_below h1 hb) (r1.step (softKept_below hb))⟩
  have HC2 : Aside0 (∀ W, Below w.heap.size w W → Calls Try.prog 70 #[.agg #[.map (some m2), t2]] W fun e w' => ∃ m', e = .returned (.agg #[.map (some m'), t2]) ∧ W.heap.size ≤ m' ∧ MapIs w' m' A2.1 ∧ Below W.heap.size W w') :=
    ⟨fun W hb => copied_any W m2 A2.1 t2 A2.2 (mapIs_below h2 hb) (r2.step (softKept_below hb))⟩
  have HR1 := Aside0.mk r1
  have HR2 := Aside0.mk r2
  have HFS := Aside0.mk hfs
  have HG := Aside0.mk hgc
  obtain ⟨B, b, eB, hlB, hCB⟩ := r1.reads
  obtain ⟨A, c, eA, hlA, hCA⟩ := r2.reads
  obtain ⟨L, cl, eL⟩ := Kd.R_slice hR
  generalize hn : List.length _ = n at eL
  subst eL eB eA
  have hn' : n = (fs.map fun f => [f]).length := hn.symm
  have hfl : (fs.map fun f => [f]).length < 2000000 := by rw [List.length_map, hfs.length]; omega
  have hcl := (Kd.R_reads' hR).2.1
  have HC3 : Aside0 (∀ W, Below w.heap.size w W → Calls Try.prog 75 #[.slice L n cl] W fun e w' => ∃ v : Value, e = .returned v ∧ (Kd.raw 1).R 119 w' W.heap.size (fun _ => True) v (fs.map fun f => [f]) ∧ Below W.heap.size W w') :=
    ⟨fun W hb => clone_steps L n cl _ W hn' (Kd.C_below (Kd.R_reads' hR).2.2 hb) hcl hfl⟩
  have hM1b : ∀ {W W' : World} {m : Nat} {H : Hist}, MapIs W m H → Below W.heap.size W W' → MapIs W' m H := fun h hb => mapIs_below h hb
  clear hgc r1 r2 h1 h2 ne bg b1 b2 hR hfs hn hn' hfl hcl hlB hCB hlA hCA
  go_enter Try.func25, Try.ntmps25
  go_wp2_with fail
  refine start_ (n := 18) (S := fun w' => w'.cell? ⟨g, 0, none⟩ = some (.map (some m1)) ∧ w'.cell? ⟨g, 1, none⟩ = some (.slice B A1.2.length b) ∧ w'.cell? ⟨g, 2, none⟩ = some (.map (some m2)) ∧ w'.cell? ⟨g, 3, none⟩ = some (.slice A A2.2.length c) ∧ w'.cell? ⟨g, 4, none⟩ = some (.slice L n cl)) (ds := []) #[false, false, false, false, false, false, false, false, false, false, false, false, false, false, false, false, false, false] (by kernel_rfl) rfl rfl ⟨((blk_cell HG.out 0).trans rfl), ((blk_cell HG.out 1).trans rfl), ((blk_cell HG.out 2).trans rfl), ((blk_cell HG.out 3).trans rfl), ((blk_cell HG.out 4).trans rfl)⟩ (fun hHeld => ?_)
  refine pure_ (i := 0) (N := some 5) (v := ?_) (a' := ?_) #[true, false, false, false, false, false, false, false, false, false, false, false, false, false, false, false, false, false] rfl rfl (by kernel_rfl) (fun _ _ _ h => h) (Or.inl ⟨by rfl, ?_⟩) ?_ ?_
  rotate_left
  · intro w'
    go_simp
    with_reducible rfl
  rotate_left
  · simp only [Act.put, List.setIfInBounds_toArray, List.set_cons_zero, List.set_cons_succ, i64_w, i32_w]
    rfl
  refine pure_ (i := 1) (N := some 6) (v := ?_) (a' := ?_) #[true, true, false, false, false, false, false, false, false, false, false, false, false, false, false, false, false, false] rfl rfl (by kernel_rfl) (fun _ _ _ h => h) (Or.inl ⟨by rfl, ?_⟩) ?_ ?_
  rotate_left
  · intro w'
    go_simp
    with_reducible rfl
  rotate_left
  · simp only [Act.put, List.setIfInBounds_toArray, List.set_cons_zero, List.set_cons_succ, i64_w, i32_w]
    rfl
  refine pure_ (i := 2) (N := some 7) (v := ?_) (a' := ?_) #[true, true, true, false, false, false, false, false, false, false, false, false, false, false, false, false, false, false] rfl rfl (by kernel_rfl) (fun _ _ _ h => h) (Or.inl ⟨by rfl, ?_⟩) ?_ ?_
  rotate_left
  · intro w'
    go_simp
    with_reducible rfl
  rotate_left
  · simp only [Act.put, List.setIfInBounds_toArray, List.set_cons_zero, List.set_cons_succ, i64_w, i32_w]
    rfl
  refine pure_ (i := 5) (N := some 10) (v := ?_) (a' := ?_) #[true, true, true, false, false, true, false, false, false, false, false, false, false, false, false, false, false, false] rfl rfl (by kernel_rfl) (fun _ _ _ h => h) (Or.inl ⟨by rfl, ?_⟩) ?_ ?_
  rotate_left
  · intro w'
    go_simp
    with_reducible rfl
  rotate_left
  · simp only [Act.put, List.setIfInBounds_toArray, List.set_cons_zero, List.set_cons_succ, i64_w, i32_w]
    rfl
  refine pure_ (i := 6) (N := some 11) (v := ?_) (a' := ?_) #[true, true, true, false, false, true, true, false, false, false, false, false, false, false, false, false, false, false] rfl rfl (by kernel_rfl) (fun _ _ _ h => h) (Or.inl ⟨by rfl, ?_⟩) ?_ ?_
  rotate_left
  · intro w'
    go_simp
    with_reducible rfl
  rotate_left
  · simp only [Act.put, List.setIfInBounds_toArray, List.set_cons_zero, List.set_cons_succ, i64_w, i32_w]
    rfl
  refine pure_ (i := 7) (N := some 12) (v := ?_) (a' := ?_) #[true, true, true, false, false, true, true, true, false, false, false, false, false, false, false, false, false, false] rfl rfl (by kernel_rfl) (fun _ _ _ h => h) (Or.inl ⟨by rfl, ?_⟩) ?_ ?_
  rotate_left
  · intro w'
    go_simp
    with_reducible rfl
  rotate_left
  · simp only [Act.put, List.setIfInBounds_toArray, List.set_cons_zero, List.set_cons_succ, i64_w, i32_w]
    rfl
  refine pure_ (i := 10) (N := some 15) (v := ?_) (a' := ?_) #[true, true, true, false, false, true, true, true, false, false, true, false, false, false, false, false, false, false] rfl rfl (by kernel_rfl) (fun _ _ _ h => h) (Or.inl ⟨by rfl, ?_⟩) ?_ ?_
  rotate_left
  · intro w'
    go_simp
    with_reducible rfl
  rotate_left
  · simp only [Act.put, List.setIfInBounds_toArray, List.set_cons_zero, List.set_cons_succ, i64_w, i32_w]
    rfl
  refine pure_ (i := 11) (N := some 16) (v := ?_) (a' := ?_) #[true, true, true, false, false, true, true, true, false, false, true, true, false, false, false, false, false, false] rfl rfl (by kernel_rfl) (fun _ _ _ h => h) (Or.inl ⟨by rfl, ?_⟩) ?_ ?_
  rotate_left
  · intro w'
    go_simp
    with_reducible rfl
  rotate_left
  · simp only [Act.put, List.setIfInBounds_toArray, List.set_cons_zero, List.set_cons_succ, i64_w, i32_w]
    rfl
  refine pure_ (i := 12) (N := some 17) (v := ?_) (a' := ?_) #[true, true, true, false, false, true, true, true, false, false, true, true, true, false, false, false, false, false] rfl rfl (by kernel_rfl) (fun _ _ _ h => h) (Or.inl ⟨by rfl, ?_⟩) ?_ ?_
  rotate_left
  · intro w'
    go_simp
    with_reducible rfl
  rotate_left
  · simp only [Act.put, List.setIfInBounds_toArray, List.set_cons_zero, List.set_cons_succ, i64_w, i32_w]
    rfl
  refine take_ (i := 3) (N := some 8) (v := ?_) (a' := ?_) #[true, true, true, true, false, true, true, true, false, false, true, true, true, false, false, false, false, false] rfl rfl (by kernel_rfl) (fun _ _ _ h => h) (Or.inl ⟨by rfl, ?_⟩) hHeld ?_ ?_
  rotate_left
  · rintro w' ⟨s0, s1, s2, s3, s4⟩
    go_simp
    with_reducible rfl
  rotate_left
  · simp only [Act.put, List.setIfInBounds_toArray, List.set_cons_zero, List.set_cons_succ, i64_w, i32_w]
    rfl
  refine take_ (i := 8) (N := some 13) (v := ?_) (a' := ?_) #[true, true, true, true, false, true, true, true, true, false, true, true, true, false, false, false, false, false] rfl rfl (by kernel_rfl) (fun _ _ _ h => h) (Or.inl ⟨by rfl, ?_⟩) hHeld ?_ ?_
  rotate_left
  · rintro w' ⟨s0, s1, s2, s3, s4⟩
    go_simp
    with_reducible rfl
  rotate_left
  · simp only [Act.put, List.setIfInBounds_toArray, List.set_cons_zero, List.set_cons_succ, i64_w, i32_w]
    rfl
  refine take_ (i := 13) (N := some 18) (v := ?_) (a' := ?_) #[true, true, true, true, false, true, true, true, true, false, true, true, true, true, false, false, false, false] rfl rfl (by kernel_rfl) (fun _ _ _ h => h) (Or.inl ⟨by rfl, ?_⟩) hHeld ?_ ?_
  rotate_left
  · rintro w' ⟨s0, s1, s2, s3, s4⟩
    go_simp
    with_reducible rfl
  rotate_left
  · simp only [Act.put, List.setIfInBounds_toArray, List.set_cons_zero, List.set_cons_succ, i64_w, i32_w]
    rfl
  refine one_ (i := 4) (N := some 9) #[true, true, true, true, true, true, true, true, true, false, true, true, true, true, false, false, false, false] rfl rfl (by kernel_rfl) (by decide) (fun K hK => ?_)
  refine goes_ Try.func70 (by kernel_rfl) rfl #[.agg #[.map (some m1), .slice B A1.2.length b]] (by rfl) rfl rfl (by first | (simp only [List.map_toArray, List.map_cons, List.map_nil]; done) | (simp only [List.map_toArray, List.map_cons, List.map_nil]; rfl)) ?_
  with_reducible refine (HC1.out _ (below_drew1 (Below.refl w.heap.size w))).mono ?_
  rintro e W1 ⟨m1c, rfl, hm1, hM1, hb⟩
  refine ⟨_, rfl, ?_⟩
  have hb1 := below_step (below_drew1 (Below.refl w.heap.size w)) hb
  have HB1 := Aside0.mk hb1
  have HM1 := Aside0.mk hM1
  have HL1 := Aside0.mk (Nat.le_trans (below_drew1 (Below.refl w.heap.size w)).size hm1)
  clear hb hb1 hM1 hm1
  refine hK.out _ _ ⟨((blk_cell (blk_below HG.out HB1.out) 0).trans rfl), ((blk_cell (blk_below HG.out HB1.out) 1).trans rfl), ((blk_cell (blk_below HG.out HB1.out) 2).trans rfl), ((blk_cell (blk_below HG.out HB1.out) 3).trans rfl), ((blk_cell (blk_below HG.out HB1.out) 4).trans rfl)⟩ (fun hHeld => ?_)
  clear hK K
  refine norm_ (a' := ?_) ?_ ?_
  rotate_left
  · show Act.put _ (some 9) _ = _
    simp only [Act.put, List.setIfInBounds_toArray, List.set_cons_zero, List.set_cons_succ, i64_w, i32_w]
    rfl
  refine one_ (i := 9) (N := some 14) #[true, true, true, true, true, true, true, true, true, true, true, true, true, true, false, false, false, false] rfl rfl (by kernel_rfl) (by decide) (fun K hK => ?_)
  refine goes_ Try.func70 (by kernel_rfl) rfl #[.agg #[.map (some m2), .slice A A2.2.length c]] (by rfl) rfl rfl (by first | (simp only [List.map_toArray, List.map_cons, List.map_nil]; done) | (simp only [List.map_toArray, List.map_cons, List.map_nil]; rfl)) ?_
  with_reducible refine (HC2.out _ HB1.out).mono ?_
  rintro e W2 ⟨m2c, rfl, hm2, hM2, hb⟩
  refine ⟨_, rfl, ?_⟩
  have HB2 := Aside0.mk (below_step HB1.out hb)
  have HM12 := Aside0.mk (hM1b HM1.out hb)
  have HM2 := Aside0.mk hM2
  have HLT1 := Aside0.mk HM1.out.lt
  have HL2 := Aside0.mk hm2
  clear hb hM2 hm2
  refine hK.out _ _ ⟨((blk_cell (blk_below HG.out HB2.out) 0).trans rfl), ((blk_cell (blk_below HG.out HB2.out) 1).trans rfl), ((blk_cell (blk_below HG.out HB2.out) 2).trans rfl), ((blk_cell (blk_below HG.out HB2.out) 3).trans rfl), ((blk_cell (blk_below HG.out HB2.out) 4).trans rfl)⟩ (fun hHeld => ?_)
  clear hK K
  refine norm_ (a' := ?_) ?_ ?_
  rotate_left
  · show Act.put _ (some 14) _ = _
    simp only [Act.put, List.setIfInBounds_toArray, List.set_cons_zero, List.set_cons_succ, i64_w, i32_w]
    rfl
  refine one_ (i := 14) (N := some 19) #[true, true, true, true, true, true, true, true, true, true, true, true, true, true, true, false, false, false] rfl rfl (by kernel_rfl) (by decide) (fun K hK => ?_)
  refine goes_ Try.func75 (by kernel_rfl) rfl #[.slice L n cl] (by rfl) rfl rfl (by first | (simp only [List.map_toArray, List.map_cons, List.map_nil]; done) | (simp only [List.map_toArray, List.map_cons, List.map_nil]; rfl)) ?_
  with_reducible refine (HC3.out _ HB2.out).mono ?_
  rintro e W3 ⟨lv, rfl, hR3, hb⟩
  refine ⟨_, rfl, ?_⟩
  have HB3 := Aside0.mk (below_step HB2.out hb)
  have HM13 := Aside0.mk (hM1b HM12.out hb)
  have HM23 := Aside0.mk (hM1b HM2.out hb)
  have HR3 := Aside0.mk (Kd.R_lower hR3 HB2.out.size)
  obtain ⟨L3, c3, e3⟩ := Kd.R_slice hR3
  generalize hn3 : List.length _ = n3 at e3
  clear hn3 hR3
  subst e3
  clear hb
  refine hK.out _ _ ⟨((blk_cell (blk_below HG.out HB3.out) 0).trans rfl), ((blk_cell (blk_below HG.out HB3.out) 1).trans rfl), ((blk_cell (blk_below HG.out HB3.out) 2).trans rfl), ((blk_cell (blk_below HG.out HB3.out) 3).trans rfl), ((blk_cell (blk_below HG.out HB3.out) 4).trans rfl)⟩ (fun hHeld => ?_)
  clear hK K
  refine norm_ (a' := ?_) ?_ ?_
  rotate_left
  · show Act.put _ (some 19) _ = _
    simp only [Act.put, List.setIfInBounds_toArray, List.set_cons_zero, List.set_cons_succ, i64_w, i32_w]
    rfl
  refine pure_ (i := 15) (N := some 20) (v := ?_) (a' := ?_) #[true, true, true, true, true, true, true, true, true, true, true, true, true, true, true, true, false, false] rfl rfl (by kernel_rfl) (fun _ _ _ h => h) (Or.inl ⟨by rfl, ?_⟩) ?_ ?_
  rotate_left
  · intro w'
    go_simp
    with_reducible rfl
  rotate_left
  · simp only [Act.put, List.setIfInBounds_toArray, List.set_cons_zero, List.set_cons_succ, i64_w, i32_w]
    rfl
  refine one_ (i := 16) (N := some 21) #[true, true, true, true, true, true, true, true, true, true, true, true, true, true, true, true, true, false] rfl rfl (by kernel_rfl) (by decide) (fun K hK => ?_)
  refine value_ (w1 := ?_) (v := ?_) (by rfl) rfl ?_ ?_
  rotate_left 2
  · go_simp
    constructor
    · rfl
    · rfl
  refine hK.out _ _ ⟨((blk_cell (blk_below HG.out (below_alloc HB3.out (.cells #[.map (some m1c), .slice B A1.2.length b, .map (some m2c), .slice A A2.2.length c, .slice L3 n3 c3] 112))) 0).trans rfl), ((blk_cell (blk_below HG.out (below_alloc HB3.out (.cells #[.map (some m1c), .slice B A1.2.length b, .map (some m2c), .slice A A2.2.length c, .slice L3 n3 c3] 112))) 1).trans rfl), ((blk_cell (blk_below HG.out (below_alloc HB3.out (.cells #[.map (some m1c), .slice B A1.2.length b, .map (some m2c), .slice A A2.2.length c, .slice L3 n3 c3] 112))) 2).trans rfl), ((blk_cell (blk_below HG.out (below_alloc HB3.out (.cells #[.map (some m1c), .slice B A1.2.length b, .map (some m2c), .slice A A2.2.length c, .slice L3 n3 c3] 112))) 3).trans rfl), ((blk_cell (blk_below HG.out (below_alloc HB3.out (.cells #[.map (some m1c), .slice B A1.2.length b, .map (some m2c), .slice A A2.2.length c, .slice L3 n3 c3] 112))) 4).trans rfl)⟩ (fun hHeld => ?_)
  clear hK K
  refine norm_ (a' := ?_) ?_ ?_
  rotate_left
  · show Act.put _ (some 21) _ = _
    simp only [Act.put, List.setIfInBounds_toArray, List.set_cons_zero, List.set_cons_succ, i64_w, i32_w]
    rfl
  refine pure_ (i := 17) (N := some 2) (v := ?_) (a' := ?_) #[true, true, true, true, true, true, true, true, true, true, true, true, true, true, true, true, true, true] rfl rfl (by kernel_rfl) (fun _ _ _ h => h) (Or.inl ⟨by rfl, ?_⟩) ?_ ?_
  rotate_left
  · intro w'
    go_simp
    with_reducible rfl
  rotate_left
  · simp only [Act.put, List.setIfInBounds_toArray, List.set_cons_zero, List.set_cons_succ, i64_w, i32_w]
    rfl
  refine done_ (by kernel_rfl) ?_

  go_wp2
  go_ret
  have hx := blk_new W3 (.cells #[.map (some m1c), .slice B A1.2.length b, .map (some m2c), .slice A A2.2.length c, .slice L3 n3 c3] 112)
  have hb4 := below_alloc (Below.refl W3.heap.size W3) (.cells #[.map (some m1c), .slice B A1.2.length b, .map (some m2c), .slice A A2.2.length c, .slice L3 n3 c3] 112)
  have hB := below_step HB3.out hb4
  have h1l := HL1.out
  have h2l := HL2.out
  have hlt := HLT1.out
  have hs2 := HB2.out.size
  have hs3 := HB3.out.size
  refine ⟨W3.heap.size, m1c, m2c, .slice L3 n3 c3, rfl, ⟨⟨_, _, hx, HR1.out.step (softKept_below hB), HR2.out.step (softKept_below hB)⟩, hM1b HM13.out hb4, hM1b HM23.out hb4, ?_, hs3, h1l, ?_, fs, Kd.R_below HR3.out hb4, forall2_imp (fun _ _ h => h.step (softKept_below hB)) HFS.out⟩, hB⟩
  · omega
  · have := HB1.out.size; omega
end Go.Proofs.Ytliohoalackhiaa.E
