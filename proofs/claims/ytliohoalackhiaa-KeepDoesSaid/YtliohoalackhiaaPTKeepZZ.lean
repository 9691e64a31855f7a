/- The law KeepDoes returns true: whatever is put, saved, cleared, flushed, and lost, each answer, and what is there, is what the chapter says: for all deeds that hold not too much, in whatever memory. Conditions: those in each theorem. -/
import Derived.Test.YtliohoalackhiaaPTKeepZA
import Derived.Test.YtliohoalackhiaaPW
import Derived.Test.YtliohoalackhiaaPTTAre
namespace Go.Proofs.Ytliohoalackhiaa.T
open Go.ChangeMaps hiding rd
open Go.RowKit Go.Maps Go.Proofs.YtliohoalackhiaaW.PrintWords Go.Proofs.YtliohoalackhiaaW.PrintLast Go.Proofs.YtliohoalackhiaaW.PrintMore Go.Proofs.Ytliohoalackhiaa.Num Go.Proofs.Ytliohoalackhiaa.CrcN
set_option linter.unusedVariables false
set_option linter.unusedSimpArgs false
theorem DV.ok.step {b : Nat} {w w' : World} {d : DV} (h : d.ok b w) (hk : Leaves b w w') : d.ok b w' := by
  obtain ⟨h1, h2, h3, h4, h5, h6, h7, h8, h9, h10⟩ := h
  exact ⟨h1, h2, h3.step hk, h4, h5, h6.step hk, h7, h8.step hk, h9, h10⟩
def DRow (b : Nat) (w : World) (A : Option Addr) (ds : List DV) : Prop := ∀ j d, ds[j]? = some d → (∃ ad, A = some ad ∧ ∀ q u, d.vals[q]? = some u → Firm b w (fun W => W.cell? ((ad.add (j * 5)).add q) = some u)) ∧ d.ok b w
theorem DRow.step {b : Nat} {w w' : World} {A : Option Addr} {ds : List DV} (h : DRow b w A ds) (hk : Leaves b w w') : DRow b w' A ds := fun j d hd => by
  obtain ⟨⟨ad, e, hc⟩, ho⟩ := h j d hd
  exact ⟨⟨ad, e, fun q u hu => (hc q u hu).step hk⟩, ho.step hk⟩
def DV.size (d : DV) : Nat := 1 + d.bs.length + d.ks.length + d.cs.length
def total (ds : List DV) : Nat := (ds.map DV.size).sum
theorem total_take {ds : List DV} {k : Nat} {d : DV} (h : ds[k]? = some d) : total (ds.take (k + 1)) = total (ds.take k) + d.size := by
  unfold total
  obtain ⟨hl, he⟩ := List.getElem?_eq_some_iff.1 h
  rw [List.take_succ_eq_append_getElem hl, List.map_append, List.sum_append, he]
  simp
theorem total_more {ds : List DV} {k : Nat} {d : DV} (h : ds[k]? = some d) : ((total (ds.take k) : Nat) : Int) + (1 + (d.bs.length : Int) + d.ks.length + d.cs.length) = ((total (ds.take (k + 1)) : Nat) : Int) := by
  rw [total_take h]
  unfold DV.size
  omega
theorem wraps {d : DV} (h : d.fits) : wrap64 (1 + (d.bs.length : Int)) = 1 + d.bs.length ∧ wrap64 (1 + (d.bs.length : Int) + d.ks.length) = 1 + d.bs.length + d.ks.length ∧ wrap64 (1 + (d.bs.length : Int) + d.ks.length + d.cs.length) = 1 + d.bs.length + d.ks.length + d.cs.length := by
  obtain ⟨h1, h2, h3⟩ := h
  exact ⟨IntWalk.wrap64_in _ (by omega), IntWalk.wrap64_in _ (by omega), IntWalk.wrap64_in _ (by omega)⟩
theorem wrap_more (x y : Int) : wrap64 (wrap64 x + y) = wrap64 (x + y) := by
  unfold wrap64
  omega
def heavy.T5 : Bool × List (List Nat × List Nat) := (true, [([], []), ([], []), ([], []), ([1, 2], [1, 2]), ([3], [3]), ([4], [4]), ([5], [5]), ([6], [6]), ([], []), ([], []), ([8, 9], [8, 9]), ([10], [10]), ([11], [11]), ([12], [12]), ([7, 13], [7, 13]), ([], []), ([], []), ([15, 16], [15, 16]), ([17], [17]), ([18], [18]), ([19], [19]), ([14, 20], [14, 20]), ([0, 21], [0, 21]), ([22, 0, 1, 2, 3, 4, 5, 6, 7, 8, 9, 10, 11, 12, 13, 14, 15, 16, 17, 18, 19, 20, 21, 22], [0, 22])])
def heavy.B5 : List Nat := [0, 0, 0, 6, 14, 30, 62, 126, 0, 0, 768, 1792, 3840, 7936, 16382, 0, 0, 98304, 229376, 491520, 1015808, 2097150, 4194303, 8388607]
theorem heavy.tab5 : rtab .any (opsOf Try.f63 5) = heavy.T5 := by kernel_rfl
theorem heavy.bits5 : waitsOk heavy.T5.2 heavy.B5 = true := by kernel_rfl
def does.T8 : Bool × List (List Nat × List Nat) := (true, [([], []), ([], []), ([], []), ([], []), ([2, 3], [2, 3]), ([4], [4]), ([0, 1, 5], [0, 1, 5]), ([6], [6]), ([7], [7]), ([7], [7]), ([], []), ([10, 8, 6, 0, 1, 2, 3, 4, 5, 6, 7, 8, 10], [8, 10]), ([9, 11, 0, 1, 2, 3, 4, 5, 6, 7, 8, 9, 10, 11], [9])])
def does.B8 : List Nat := [0, 0, 0, 0, 12, 28, 63, 127, 255, 255, 0, 1535, 4095]
theorem does.tab8 : rtab .any (opsOf Try.f13 8) = does.T8 := by kernel_rfl
theorem does.bits8 : waitsOk does.T8.2 does.B8 = true := by kernel_rfl
def does.T10 : Bool × List (List Nat × List Nat) := (true, [([], []), ([0], [0]), ([1], [1]), ([2], [2]), ([2], [2]), ([2], [2]), ([2], [2]), ([5, 6, 2], [2, 5, 6]), ([7, 2], [2, 7]), ([8, 2], [2, 8]), ([3, 4, 9, 2, 2], [2, 3, 4, 9]), ([10, 2], [2, 10]), ([2, 11], [2, 11]), ([12, 10], [12]), ([13], [13]), ([13], [13]), ([13], [13]), ([16, 13], [13, 16]), ([14, 15, 17, 13, 13], [13, 14, 15, 17]), ([18, 13], [13, 18]), ([13, 19], [13, 19])])
def does.B10 : List Nat := [0, 1, 3, 7, 7, 7, 7, 103, 231, 487, 1023, 2047, 4095, 8191, 16383, 16383, 16383, 81919, 262143, 524287, 1048575]
theorem does.tab10 : rtab .any (opsOf Try.f13 10) = does.T10 := by kernel_rfl
theorem does.bits10 : waitsOk does.T10.2 does.B10 = true := by kernel_rfl
set_option maxRecDepth 100000 in
set_option maxHeartbeats 4000000 in
theorem heavy_any (w : World) (A : Option Addr) (cA : Nat) (ds : List DV) (h : DRow w.heap.size w A ds) (hl : ds.length ≤ 1599289640354) (hft : ∀ d ∈ ds, d.fits) :
    Calls Try.prog 63 #[.slice A ds.length cA] w fun e w' => e = .returned (.bool (decide (wrap64 (total ds : Int) > 600))) ∧ Below w.heap.size w w' := by
  have HR := Aside0.mk h
  have HFT := Aside0.mk hft
  clear h hft
  go_enter Try.func63, Try.ntmps63
  go_wp2_with fail
  go_loopw [3, 4] (fun nv iv wr => ∃ (k : Nat) (n : Int), k ≤ ds.length ∧ nv = .int .i64 n ∧ Aside0 (n = wrap64 (total (ds.take k) : Nat)) ∧ iv = .int .i64 k ∧ Aside0 (Below w.heap.size w wr))
    (fun _ iv _ => ds.length - (intOf iv).toNat)
  case atStart => exact ⟨0, 0, Nat.zero_le _, rfl, ⟨by rw [List.take_zero]; exact (IntWalk.wrap64_in 0 (by omega)).symm⟩, rfl, ⟨Below.refl _ _⟩⟩
  case round =>
    obtain ⟨k, n, hk, rfl, HN, rfl, HB⟩ := hrel
    by_cases hlt : k < ds.length
    · have hlt' : (k : Int) < (ds.length : Int) := by omega
      obtain ⟨d, hd⟩ : ∃ d, ds[k]? = some d := ⟨_, List.getElem?_eq_getElem hlt⟩
      obtain ⟨⟨adl, e, hc⟩, hok⟩ := HR.out k d hd
      subst e
      have hL := Leaves.of_below HB.out (Nat.le_refl _)
      have c2_ : wr.cell? ⟨(adl.add (k * 5)).block, (adl.add (k * 5)).off + 2, none⟩ = some (.slice d.B d.bs.length d.cB) := ((hc 2 _ rfl).step hL).now
      have c3_ : wr.cell? ⟨(adl.add (k * 5)).block, (adl.add (k * 5)).off + 3, none⟩ = some (.slice d.K d.ks.length d.cK) := ((hc 3 _ rfl).step hL).now
      have c4_ : wr.cell? ⟨(adl.add (k * 5)).block, (adl.add (k * 5)).off + 4, none⟩ = some (.slice d.C d.cs.length d.cC) := ((hc 4 _ rfl).step hL).now
      obtain ⟨hw1, hw2, hw3⟩ := wraps (HFT.out d (List.mem_of_getElem? hd))
      have HTK : Aside0 (wrap64 (n + (1 + (d.bs.length : Int) + d.ks.length + d.cs.length)) = wrap64 (total (ds.take (k + 1)) : Nat)) := ⟨by rw [HN.out, wrap_more, total_more hd]⟩
      have hkb : k + 1 ≤ 1599289640354 := by omega
      have HBd := Aside0.mk (below_step HB.out (below_drew1 (Below.refl wr.heap.size wr)))
      clear hc hok hL hd
      go_wp2_with fail
      refine start_ (n := 24) (S := fun w' => w'.cell? ⟨(adl.add (k * 5)).block, (adl.add (k * 5)).off + 2, none⟩ = some (.slice d.B d.bs.length d.cB) ∧ w'.cell? ⟨(adl.add (k * 5)).block, (adl.add (k * 5)).off + 3, none⟩ = some (.slice d.K d.ks.length d.cK) ∧ w'.cell? ⟨(adl.add (k * 5)).block, (adl.add (k * 5)).off + 4, none⟩ = some (.slice d.C d.cs.length d.cC)) (ds := []) (Far.bm 24 0) (by kernel_rfl) rfl rfl ⟨c2_, c3_, c4_⟩ (fun hHeld => ?_)
      refine with_tabW heavy.tab5 heavy.bits5 (fun HT_ HW_ => ?_)
      refine pure_ (i := 0) (N := some 11) (v := ?_) (a' := ?_) (Far.bm 24 1) rfl rfl (any_of HT_.out (by kernel_rfl)) (fun _ _ _ h => h) (Or.inl ⟨by rfl, ?_⟩) ?_ ?_; rotate_left; (intro w'; go_simp; with_reducible rfl); rotate_left; (simp only [Act.put, List.setIfInBounds_toArray, List.set_cons_zero, List.set_cons_succ, i64_w, i32_w]; rfl)
      refine pure_ (i := 1) (N := some 12) (v := ?_) (a' := ?_) (Far.bm 24 3) rfl rfl (any_of HT_.out (by kernel_rfl)) (fun _ _ _ h => h) (Or.inl ⟨by rfl, ?_⟩) ?_ ?_; rotate_left; (intro w'; go_simp; with_reducible rfl); rotate_left; (simp only [Act.put, List.setIfInBounds_toArray, List.set_cons_zero, List.set_cons_succ, i64_w, i32_w]; rfl)
      refine pure_ (i := 2) (N := some 13) (v := ?_) (a' := ?_) (Far.bm 24 7) rfl rfl (any_of HT_.out (by kernel_rfl)) (fun _ _ _ h => h) (Or.inl ⟨by rfl, ?_⟩) ?_ ?_; rotate_left; (intro w'; go_simp; with_reducible rfl); rotate_left; (simp only [Act.put, List.setIfInBounds_toArray, List.set_cons_zero, List.set_cons_succ, i64_w, i32_w]; rfl)
      refine pure_ (i := 3) (N := some 14) (v := ?_) (a' := ?_) (Far.bm 24 15) rfl rfl (any_of HT_.out (by kernel_rfl)) (fun _ _ _ h => h) (Or.inl ⟨by rfl, ?_⟩) ?_ ?_; rotate_left; (intro w'; go_simp; with_reducible rfl); rotate_left; (simp only [Act.put, List.setIfInBounds_toArray, List.set_cons_zero, List.set_cons_succ, i64_w, i32_w]; rfl)
      refine pure_ (i := 4) (N := some 15) (v := ?_) (a' := ?_) (Far.bm 24 31) rfl rfl (any_of HT_.out (by kernel_rfl)) (fun _ _ _ h => h) (Or.inl ⟨by rfl, ?_⟩) ?_ ?_; rotate_left; (intro w'; go_simp; with_reducible rfl); rotate_left; (simp only [Act.put, List.setIfInBounds_toArray, List.set_cons_zero, List.set_cons_succ, i64_w, i32_w]; rfl)
      refine pure_ (i := 8) (N := some 19) (v := ?_) (a' := ?_) (Far.bm 24 287) rfl rfl (any_of HT_.out (by kernel_rfl)) (fun _ _ _ h => h) (Or.inl ⟨by rfl, ?_⟩) ?_ ?_; rotate_left; (intro w'; go_simp; with_reducible rfl); rotate_left; (simp only [Act.put, List.setIfInBounds_toArray, List.set_cons_zero, List.set_cons_succ, i64_w, i32_w]; rfl)
      refine pure_ (i := 9) (N := some 20) (v := ?_) (a' := ?_) (Far.bm 24 799) rfl rfl (any_of HT_.out (by kernel_rfl)) (fun _ _ _ h => h) (Or.inl ⟨by rfl, ?_⟩) ?_ ?_; rotate_left; (intro w'; go_simp; with_reducible rfl); rotate_left; (simp only [Act.put, List.setIfInBounds_toArray, List.set_cons_zero, List.set_cons_succ, i64_w, i32_w]; rfl)
      refine pure_ (i := 10) (N := some 21) (v := ?_) (a' := ?_) (Far.bm 24 1823) rfl rfl (any_of HT_.out (by kernel_rfl)) (fun _ _ _ h => h) (Or.inl ⟨by rfl, ?_⟩) ?_ ?_; rotate_left; (intro w'; go_simp; with_reducible rfl); rotate_left; (simp only [Act.put, List.setIfInBounds_toArray, List.set_cons_zero, List.set_cons_succ, i64_w, i32_w]; rfl)
      refine pure_ (i := 11) (N := some 22) (v := ?_) (a' := ?_) (Far.bm 24 3871) rfl rfl (any_of HT_.out (by kernel_rfl)) (fun _ _ _ h => h) (Or.inl ⟨by rfl, ?_⟩) ?_ ?_; rotate_left; (intro w'; go_simp; with_reducible rfl); rotate_left; (simp only [Act.put, List.setIfInBounds_toArray, List.set_cons_zero, List.set_cons_succ, i64_w, i32_w]; rfl)
      refine pure_ (i := 15) (N := some 26) (v := ?_) (a' := ?_) (Far.bm 24 36639) rfl rfl (any_of HT_.out (by kernel_rfl)) (fun _ _ _ h => h) (Or.inl ⟨by rfl, ?_⟩) ?_ ?_; rotate_left; (intro w'; go_simp; with_reducible rfl); rotate_left; (simp only [Act.put, List.setIfInBounds_toArray, List.set_cons_zero, List.set_cons_succ, i64_w, i32_w]; rfl)
      refine pure_ (i := 16) (N := some 27) (v := ?_) (a' := ?_) (Far.bm 24 102175) rfl rfl (any_of HT_.out (by kernel_rfl)) (fun _ _ _ h => h) (Or.inl ⟨by rfl, ?_⟩) ?_ ?_; rotate_left; (intro w'; go_simp; with_reducible rfl); rotate_left; (simp only [Act.put, List.setIfInBounds_toArray, List.set_cons_zero, List.set_cons_succ, i64_w, i32_w]; rfl)
      refine pure_ (i := 17) (N := some 28) (v := ?_) (a' := ?_) (Far.bm 24 233247) rfl rfl (any_of HT_.out (by kernel_rfl)) (fun _ _ _ h => h) (Or.inl ⟨by rfl, ?_⟩) ?_ ?_; rotate_left; (intro w'; go_simp; with_reducible rfl); rotate_left; (simp only [Act.put, List.setIfInBounds_toArray, List.set_cons_zero, List.set_cons_succ, i64_w, i32_w]; rfl)
      refine pure_ (i := 18) (N := some 29) (v := ?_) (a' := ?_) (Far.bm 24 495391) rfl rfl (any_of HT_.out (by kernel_rfl)) (fun _ _ _ h => h) (Or.inl ⟨by rfl, ?_⟩) ?_ ?_; rotate_left; (intro w'; go_simp; with_reducible rfl); rotate_left; (simp only [Act.put, List.setIfInBounds_toArray, List.set_cons_zero, List.set_cons_succ, i64_w, i32_w]; rfl)
      refine take_ (i := 5) (N := some 16) (v := ?_) (a' := ?_) (Far.bm 24 495423) rfl rfl (take_ofW HT_.out HW_.out (by kernel_rfl)) (fun _ _ _ h => h) (Or.inl ⟨by rfl, ?_⟩) hHeld ?_ ?_; rotate_left; (rintro w' ⟨s0, s1, s2⟩; go_simp; with_reducible rfl); rotate_left; (simp only [Act.put, List.setIfInBounds_toArray, List.set_cons_zero, List.set_cons_succ, i64_w, i32_w]; rfl)
      refine pure_ (i := 6) (N := some 17) (v := ?_) (a' := ?_) (Far.bm 24 495487) rfl rfl (any_of HT_.out (by kernel_rfl)) (fun _ _ _ h => h) (Or.inl ⟨by rfl, ?_⟩) ?_ ?_; rotate_left; (intro w'; go_simp; with_reducible rfl); rotate_left; (simp only [Act.put, List.setIfInBounds_toArray, List.set_cons_zero, List.set_cons_succ, i64_w, i32_w]; rfl)
      refine pure_ (i := 7) (N := some 18) (v := ?_) (a' := ?_) (Far.bm 24 495615) rfl rfl (any_of HT_.out (by kernel_rfl)) (fun _ _ _ h => h) (Or.inl ⟨by rfl, ?_⟩) ?_ ?_; rotate_left; (intro w'; go_simp; with_reducible rfl); rotate_left; (simp only [Act.put, List.setIfInBounds_toArray, List.set_cons_zero, List.set_cons_succ, i64_w, i32_w]; rfl)
      refine take_ (i := 12) (N := some 23) (v := ?_) (a' := ?_) (Far.bm 24 499711) rfl rfl (take_ofW HT_.out HW_.out (by kernel_rfl)) (fun _ _ _ h => h) (Or.inl ⟨by rfl, ?_⟩) hHeld ?_ ?_; rotate_left; (rintro w' ⟨s0, s1, s2⟩; go_simp; with_reducible rfl); rotate_left; (simp only [Act.put, List.setIfInBounds_toArray, List.set_cons_zero, List.set_cons_succ, i64_w, i32_w]; rfl)
      refine pure_ (i := 13) (N := some 24) (v := ?_) (a' := ?_) (Far.bm 24 507903) rfl rfl (any_of HT_.out (by kernel_rfl)) (fun _ _ _ h => h) (Or.inl ⟨by rfl, ?_⟩) ?_ ?_; rotate_left; (intro w'; go_simp; with_reducible rfl); rotate_left; (simp only [Act.put, List.setIfInBounds_toArray, List.set_cons_zero, List.set_cons_succ, i64_w, i32_w]; rfl)
      refine pure_ (i := 14) (N := some 25) (v := ?_) (a' := ?_) (Far.bm 24 524287) rfl rfl (any_of HT_.out (by kernel_rfl)) (fun _ _ _ h => h) (Or.inl ⟨by rfl, ?_⟩) ?_ ?_; rotate_left; (intro w'; go_simp; with_reducible rfl); rotate_left; (simp only [Act.put, List.setIfInBounds_toArray, List.set_cons_zero, List.set_cons_succ, i64_w, i32_w]; rfl)
      refine take_ (i := 19) (N := some 30) (v := ?_) (a' := ?_) (Far.bm 24 1048575) rfl rfl (take_ofW HT_.out HW_.out (by kernel_rfl)) (fun _ _ _ h => h) (Or.inl ⟨by rfl, ?_⟩) hHeld ?_ ?_; rotate_left; (rintro w' ⟨s0, s1, s2⟩; go_simp; with_reducible rfl); rotate_left; (simp only [Act.put, List.setIfInBounds_toArray, List.set_cons_zero, List.set_cons_succ, i64_w, i32_w]; rfl)
      refine pure_ (i := 20) (N := some 31) (v := ?_) (a' := ?_) (Far.bm 24 2097151) rfl rfl (any_of HT_.out (by kernel_rfl)) (fun _ _ _ h => h) (Or.inl ⟨by rfl, ?_⟩) ?_ ?_; rotate_left; (intro w'; go_simp; with_reducible rfl); rotate_left; (simp only [Act.put, List.setIfInBounds_toArray, List.set_cons_zero, List.set_cons_succ, i64_w, i32_w]; rfl)
      refine pure_ (i := 21) (N := some 32) (v := ?_) (a' := ?_) (Far.bm 24 4194303) rfl rfl (any_of HT_.out (by kernel_rfl)) (fun _ _ _ h => h) (Or.inl ⟨by rfl, ?_⟩) ?_ ?_; rotate_left; (intro w'; go_simp; with_reducible rfl); rotate_left; (simp only [Act.put, List.setIfInBounds_toArray, List.set_cons_zero, List.set_cons_succ, i64_w, i32_w]; rfl)
      refine pure_ (i := 22) (N := some 33) (v := ?_) (a' := ?_) (Far.bm 24 8388607) rfl rfl (any_of HT_.out (by kernel_rfl)) (fun _ _ _ h => h) (Or.inl ⟨by rfl, ?_⟩) ?_ ?_; rotate_left; (intro w'; go_simp; with_reducible rfl); rotate_left; (simp only [Act.put, List.setIfInBounds_toArray, List.set_cons_zero, List.set_cons_succ, i64_w, i32_w]; rfl)
      refine pure_ (i := 23) (N := some 3) (v := ?_) (a' := ?_) (Far.bm 24 16777215) rfl rfl (any_of HT_.out (by kernel_rfl)) (fun _ _ _ h => h) (Or.inl ⟨by rfl, ?_⟩) ?_ ?_; rotate_left; (intro w'; go_simp; with_reducible rfl); rotate_left; (simp only [Act.put, List.setIfInBounds_toArray, List.set_cons_zero, List.set_cons_succ, i64_w, i32_w]; rfl)
      refine done_ (done_of HT_.out (by kernel_rfl)) ?_
      go_wp2_with fail
      go_roundw
      case measure => simp [intOf]; omega
      case rel => exact ⟨k + 1, _, by omega, rfl, HTK, by go_num, HBd⟩
    · have hlt' : ¬ (k : Int) < (ds.length : Int) := by omega
      have hkk : ds.take k = ds := List.take_of_length_le (by omega)
      rw [hkk] at HN
      go_wp2_with fail
      go_ret
      exact ⟨by rw [HN.out]; rfl, HB.out⟩
theorem deed_any {w : World} {b g m1 m2 : Nat} {lo : Value} {vs : List Value} {A1 A2 : Hist × List Int} {steps : List Step} {nf : Nat} (I : DIn w b g m1 m2 lo vs A1 A2 steps nf) (d : DV) (hd : d.ok b w) (hs : d.fits) : DCalls w b g m1 m2 lo vs nf d := by
  have hkd := hd.1
  have hcs := hs.2.2
  have put : (d.kd % 6 = 3 ∧ ¬ d.i.tmod 3 = 0) ∨ d.kd % 6 = 4 ∨ d.kd % 6 = 5 → DCalls w b g m1 m2 lo vs nf d := by
    intro hp
    obtain ⟨ix, hix⟩ : ∃ ix, ix = if d.kd % 4 > 0 then d.i.tmod 9 else d.i := ⟨_, rfl⟩
    refine deed_put w b g m1 m2 lo vs A1 A2 steps nf I d hd hs hp (fun wz hwz => ?_)
    intros
    by_cases hq : (0 ≤ ix ∧ ix < 512) ∧ d.bs.length ≤ 64
    · by_cases h4 : d.kd % 4 > 0
      · apply put_oka w b g m1 m2 lo vs A1 A2 steps nf I d hd hs wz hwz h4 ix (by rw [hix, if_pos h4]) hq
      · apply put_okb w b g m1 m2 lo vs A1 A2 steps nf I d hd hs wz hwz h4 ix (by rw [hix, if_neg h4]) hq
    · have hq' : ix < 0 ∨ (¬ ix < 0 ∧ ix > 511) ∨ (¬ ix < 0 ∧ ¬ ix > 511 ∧ (d.bs.length : Int) > 64) := by omega
      by_cases h4 : d.kd % 4 > 0
      · apply put_noa w b g m1 m2 lo vs A1 A2 steps nf I d hd hs wz hwz h4 ix (by rw [hix, if_pos h4]) hq'
      · apply put_nob w b g m1 m2 lo vs A1 A2 steps nf I d hd hs wz hwz h4 ix (by rw [hix, if_neg h4]) hq'
  have hk6 : d.kd % 6 = 0 ∨ d.kd % 6 = 1 ∨ d.kd % 6 = 2 ∨ d.kd % 6 = 3 ∨ d.kd % 6 = 4 ∨ d.kd % 6 = 5 := by omega
  rcases hk6 with k6 | k6 | k6 | k6 | k6 | k6
  · exact deed_flush w b g m1 m2 lo vs A1 A2 steps nf I d hd hs k6
  · exact deed_crash w b g m1 m2 lo vs A1 A2 steps nf I d hd hs k6
  · obtain ⟨ss, yk, kn, eT, ht, hbk, hy⟩ := tokG d.kd ⟨by omega, by omega⟩ d.cs hd.2.2.2.2.2.2.2.2.2 (by omega) d.kd (d.kd / 3) (by omega) (by omega) (d.cs.length + 500001) (by omega)
    have hkl : kn.length < 100000 := by
      have h5' := chunksN_le ss
      have h2' := ht.2.1
      omega
    refine deed_save w b g m1 m2 lo vs A1 A2 steps nf I d hd hs k6 ss yk kn eT hbk hkl (fun wz hwz wf hbf gk D1 d1 K3 k3 kz hkf hTR hkz hzl hq => ?_)
    intros
    by_cases hok : TokOK ss kz
    · apply save_ok w b g m1 m2 lo vs A1 A2 steps nf I d hd hs wz hwz wf hbf gk D1 d1 ss yk K3 k3 kz hkf hTR hkz hzl hy hok
    · apply save_no w b g m1 m2 lo vs A1 A2 steps nf I d hd hs wz hwz wf hbf gk D1 d1 ss yk K3 k3 kz hkf hTR hkz hzl hy hok
  · by_cases h3i : d.i.tmod 3 = 0
    · exact deed_clear w b g m1 m2 lo vs A1 A2 steps nf I d hd hs k6 h3i
    · exact put (.inl ⟨k6, h3i⟩)
  · exact put (.inr (.inl k6))
  · exact put (.inr (.inr k6))
theorem Sto.lower {w : World} {B b g m1 m2 : Nat} {lo : Value} {A1 A2 : Hist × List Int} {steps : List Step} (h : Sto w B g m1 m2 lo A1 A2 steps) (hb : b ≤ B) : Sto w b g m1 m2 lo A1 A2 steps := by
  obtain ⟨hg, h1, h2, ne, bg, b1, b2, fs, hR, hf⟩ := h
  exact ⟨hg, h1, h2, ne, by omega, by omega, by omega, fs, Kd.R_lower hR hb, hf⟩
abbrev SD (a : Addr) (d : DV) (w : World) : Prop := w.cell? a = some (.int .u8 d.kd) ∧ w.cell? ⟨a.block, a.off + 1, none⟩ = some (.int .i64 d.i) ∧ w.cell? ⟨a.block, a.off + 2, none⟩ = some (.slice d.B d.bs.length d.cB) ∧ w.cell? ⟨a.block, a.off + 3, none⟩ = some (.slice d.K d.ks.length d.cK) ∧ w.cell? ⟨a.block, a.off + 4, none⟩ = some (.slice d.C d.cs.length d.cC)
theorem sd_of {b : Nat} {w : World} {a : Addr} {d : DV} (h : ∀ q u, d.vals[q]? = some u → Firm b w (fun W => W.cell? (a.add q) = some u)) : Firm b w (SD a d) := fun W hW => ⟨h 0 _ rfl W hW, h 1 _ rfl W hW, h 2 _ rfl W hW, h 3 _ rfl W hW, h 4 _ rfl W hW⟩
def LoopF (b g gt k : Nat) (w0 w : World) (cs : Array Value) (gu : Nat) (vs : List Value) (w' : World) : Prop := ∃ (m1 m2 : Nat) (lo : Value) (A1 A2 : Hist × List Int) (steps : List Step), Sto w' b g m1 m2 lo A1 A2 steps ∧ RT b w' vs A1 A2 steps ∧ Fine (k + 1) A1 A2 steps ∧ w'.heap[gu]? = some (.cells z15 100) ∧ w'.heap[gt]? = some (.cells cs 100) ∧ Below b w0 w' ∧ Leaves b w w' ∧ gu ≠ gt ∧ b ≤ gu
set_option maxRecDepth 100000 in
set_option maxHeartbeats 64000000 in
theorem does_walk (w : World) (A : Option Addr) (cA : Nat) (ds : List DV) (h : DRow w.heap.size w A ds) (hl : ds.length ≤ 1599289640354) (hft : ∀ d ∈ ds, d.fits) :
    Calls Try.prog 13 #[.slice A ds.length cA] w fun e w' => e = .returned (.bool true) ∧ Below w.heap.size w w' := by
  have HD := Aside0.mk h
  have HFT := Aside0.mk hft
  have HH := Aside0.mk (heavy_any w A cA ds h hl hft)
  by_cases hhv : wrap64 (total ds : Int) > 600
  · rw [decide_eq_true hhv] at HH
    clear h hft hhv
    go_enter Try.func13, Try.ntmps13
    go_wp2_with fail
    refine HH.out.mono ?_
    rintro e w1 ⟨rfl, hb1⟩
    have HB1 := Aside0.mk hb1
    clear hb1 HH
    go_wp2_with fail
    refine (keep_known w1).mono ?_
    rintro e w2 ⟨rfl, hb2⟩
    have HB2 := Aside0.mk (below_step HB1.out hb2)
    clear hb2
    go_wp2_with fail
    go_ret
    exact ⟨rfl, HB2.out⟩
  rw [decide_eq_false hhv] at HH
  clear h hft hhv
  go_enter Try.func13, Try.ntmps13
  go_wp2_with fail
  refine HH.out.mono ?_
  rintro e w1 ⟨rfl, hb1⟩
  have HB1 := Aside0.mk hb1
  clear hb1 HH
  go_wp2_with fail
  refine (keep_known w1).mono ?_
  rintro e w2 ⟨rfl, hb2⟩
  have HB2 := Aside0.mk (below_step HB1.out hb2)
  clear hb2
  go_wp2_with fail
  refine (keep_new w2).mono ?_
  rintro e w3 ⟨g, m1, m2, rfl, hS, hb3⟩
  have HS := Aside0.mk hS
  have HB3 := Aside0.mk (below_step HB2.out hb3)
  clear hS hb3
  go_wp2_with fail
  refine (ref_new w3).mono ?_
  rintro e w4 ⟨vs, rfl, _, hT, hb4⟩
  have hT := hT w.heap.size HB3.out.size
  obtain ⟨Ah, ch, Ac, cc, isb, x, V1, n1, c1, y, V3, n3, c3, Bh, ch2, Bc, cc2, isb2, x2, V12, n12, c12, y2, V32, n32, c32, L, n, cl, rows, rfl, -⟩ := hT.shape
  have hba := below_alloc (Below.refl w4.heap.size w4) (.cells #[.slice Ah 512 ch, .slice Ac 512 cc, .bool isb, .int .u64 x, .slice V1 n1 c1, .int .u32 y, .slice V3 n3 c3, .slice Bh 512 ch2, .slice Bc 512 cc2, .bool isb2, .int .u64 x2, .slice V12 n12 c12, .int .u32 y2, .slice V32 n32 c32, .slice L n cl] 100)
  have hgt := blk_new w4 (.cells #[.slice Ah 512 ch, .slice Ac 512 cc, .bool isb, .int .u64 x, .slice V1 n1 c1, .int .u32 y, .slice V3 n3 c3, .slice Bh 512 ch2, .slice Bc 512 cc2, .bool isb2, .int .u64 x2, .slice V12 n12 c12, .int .u32 y2, .slice V32 n32 c32, .slice L n cl] 100)
  have hb0 := Nat.le_trans HB3.out.size hb4.size
  have hT := hT.step (Leaves.of_below hba hb0)
  have hS := ((HS.out.below hb4).below hba).lower HB2.out.size
  have hB := below_step (below_step HB3.out hb4) hba
  go_wp2_with fail
  generalize hge : w4.heap.size = gt at hgt ⊢
  generalize w4.alloc (.cells #[.slice Ah 512 ch, .slice Ac 512 cc, .bool isb, .int .u64 x, .slice V1 n1 c1, .int .u32 y, .slice V3 n3 c3, .slice Bh 512 ch2, .slice Bc 512 cc2, .bool isb2, .int .u64 x2, .slice V12 n12 c12, .int .u32 y2, .slice V32 n32 c32, .slice L n cl] 100) = w5 at hba hgt hT hS hB ⊢
  have HS5 := Aside0.mk hS
  have HT5 := Aside0.mk hT
  have HB5 := Aside0.mk hB
  have HG5 := Aside0.mk hgt
  have hbg : w.heap.size ≤ gt := by rw [← hge]; exact hb0
  clear hS hT hB hgt hba hb4 hge HS HB1 HB2 HB3
  go_loopw [5] (fun iv wr => ∃ (k m1' m2' : Nat) (lo' : Value) (A1' A2' : Hist × List Int) (steps' : List Step) (vs' : List Value), k ≤ ds.length ∧ iv = .int .i64 k ∧ vs'.length = 15 ∧ Aside0 (wr.heap[gt]? = some (.cells vs'.toArray 100)) ∧ Aside0 (Sto wr w.heap.size g m1' m2' lo' A1' A2' steps') ∧ Aside0 (RT w.heap.size wr vs' A1' A2' steps') ∧ Aside0 (Fine k A1' A2' steps') ∧ Aside0 (Below w.heap.size w wr))
    (fun iv _ => ds.length - (intOf iv).toNat)
  case atStart => exact ⟨0, m1, m2, .slice none 0 0, ([], []), ([], []), [], _, Nat.zero_le _, rfl, rfl, HG5, HS5, HT5, ⟨Fine.new⟩, HB5⟩
  case round =>
    clear HS5 HT5 HB5 HG5
    obtain ⟨k, m1, m2, lo, A1, A2, steps, vs', hk, rfl, -, HGT, HSr, HTr, HFr, HBr⟩ := hrel
    by_cases hlt : k < ds.length
    · have hlt' : (k : Int) < (ds.length : Int) := by omega
      obtain ⟨d, hd⟩ : ∃ d, ds[k]? = some d := ⟨_, List.getElem?_eq_getElem hlt⟩
      have HSZ := Aside0.mk (HFT.out d (List.mem_of_getElem? hd))
      obtain ⟨⟨adl, e, hc⟩, hok⟩ := HD.out k d hd
      subst e
      have hbr := HBr.out.size
      have hL := Leaves.of_below HBr.out (Nat.le_refl _)
      have HSD := Aside0.mk ((sd_of hc).step hL)
      have HOK := Aside0.mk (hok.step hL)
      obtain ⟨Ah, ch, Ac, cc, isb, x, V1, n1, c1, y, V3, n3, c3, Bh, ch2, Bc, cc2, isb2, x2, V12, n12, c12, y2, V32, n32, c32, L, n, cl, rows, rfl, -⟩ := HTr.out.shape
      have HDEED : Aside0 (∀ wq, Below wr.heap.size wr wq → Calls Try.prog 65 #[.pointer (some ⟨g, 0, none⟩), .agg #[.slice Ah 512 ch, .slice Ac 512 cc, .bool isb, .int .u64 x, .slice V1 n1 c1, .int .u32 y, .slice V3 n3 c3, .slice Bh 512 ch2, .slice Bc 512 cc2, .bool isb2, .int .u64 x2, .slice V12 n12 c12, .int .u32 y2, .slice V32 n32 c32, .slice L n cl], .agg d.vals.toArray] wq (DeedPost w.heap.size g m1 m2 lo wq k)) := ⟨fun wq hq => deed_any (lo := lo) ⟨Nat.le_trans hbr hq.size, HSr.out.below hq, HTr.out.step (Leaves.of_below hq hbr), HFr.out, by omega⟩ d (HOK.out.step (Leaves.of_below hq hbr)) HSZ.out⟩
      have hid : -9223372036854775808 ≤ d.i ∧ d.i ≤ 9223372036854775807 := hok.2.1
      clear hc hok hL hd
      go_wp2_with fail
      refine start_ (n := 13) (S := fun w' => S15 gt (.slice Ah 512 ch) (.slice Ac 512 cc) (.bool isb) (.int .u64 x) (.slice V1 n1 c1) (.int .u32 y) (.slice V3 n3 c3) (.slice Bh 512 ch2) (.slice Bc 512 cc2) (.bool isb2) (.int .u64 x2) (.slice V12 n12 c12) (.int .u32 y2) (.slice V32 n32 c32) (.slice L n cl) w' ∧ SD (adl.add (k * 5)) d w') (ds := [11]) (Far.bm 13 0) (by kernel_rfl) rfl rfl ⟨cells15 HGT.out, (HSD.out.step (Leaves.of_below (below_drew1 (Below.refl wr.heap.size wr)) hbr)).now⟩ (fun hHeld => ?_)
      refine with_tabW does.tab8 does.bits8 (fun HT_ HW_ => ?_)
      refine pure_ (i := 0) (N := some 24) (v := ?_) (a' := ?_) (Far.bm 13 1) rfl rfl (any_of HT_.out (by kernel_rfl)) (fun _ _ _ h => h) (Or.inl ⟨by rfl, ?_⟩) ?_ ?_; rotate_left; (intro w'; go_simp; with_reducible rfl); rotate_left; (simp only [Act.put, List.setIfInBounds_toArray, List.set_cons_zero, List.set_cons_succ, i64_w, i32_w]; rfl)
      refine pure_ (i := 2) (N := some 26) (v := ?_) (a' := ?_) (Far.bm 13 5) rfl rfl (any_of HT_.out (by kernel_rfl)) (fun _ _ _ h => h) (Or.inl ⟨by rfl, ?_⟩) ?_ ?_; rotate_left; (intro w'; go_simp; with_reducible rfl); rotate_left; (simp only [Act.put, List.setIfInBounds_toArray, List.set_cons_zero, List.set_cons_succ, i64_w, i32_w]; rfl)
      refine pure_ (i := 3) (N := some 27) (v := ?_) (a' := ?_) (Far.bm 13 13) rfl rfl (any_of HT_.out (by kernel_rfl)) (fun _ _ _ h => h) (Or.inl ⟨by rfl, ?_⟩) ?_ ?_; rotate_left; (intro w'; go_simp; with_reducible rfl); rotate_left; (simp only [Act.put, List.setIfInBounds_toArray, List.set_cons_zero, List.set_cons_succ, i64_w, i32_w]; rfl)
      refine pure_ (i := 4) (N := some 28) (v := ?_) (a' := ?_) (Far.bm 13 29) rfl rfl (any_of HT_.out (by kernel_rfl)) (fun _ _ _ h => h) (Or.inl ⟨by rfl, ?_⟩) ?_ ?_; rotate_left; (intro w'; go_simp; with_reducible rfl); rotate_left; (simp only [Act.put, List.setIfInBounds_toArray, List.set_cons_zero, List.set_cons_succ, i64_w, i32_w]; rfl)
      refine take_ (i := 1) (N := some 25) (v := ?_) (a' := ?_) (Far.bm 13 31) rfl rfl (take_ofW HT_.out HW_.out (by kernel_rfl)) (fun _ _ _ h => h) (Or.inl ⟨by rfl, ?_⟩) hHeld ?_ ?_; rotate_left; (rintro w' ⟨⟨s0, s1, s2, s3, s4, s5, s6, s7, s8, s9, s10, s11, s12, s13, s14⟩, d0, d1, d2, d3, d4⟩; go_simp; with_reducible rfl); rotate_left; (simp only [Act.put, List.setIfInBounds_toArray, List.set_cons_zero, List.set_cons_succ, i64_w, i32_w]; rfl)
      refine take_ (i := 5) (N := some 29) (v := ?_) (a' := ?_) (Far.bm 13 63) rfl rfl (take_ofW HT_.out HW_.out (by kernel_rfl)) (fun _ _ _ h => h) (Or.inl ⟨by rfl, ?_⟩) hHeld ?_ ?_; rotate_left; (rintro w' ⟨⟨s0, s1, s2, s3, s4, s5, s6, s7, s8, s9, s10, s11, s12, s13, s14⟩, d0, d1, d2, d3, d4⟩; go_simp; with_reducible rfl); rotate_left; (simp only [Act.put, List.setIfInBounds_toArray, List.set_cons_zero, List.set_cons_succ, i64_w, i32_w]; rfl)
      refine join_ (σ := Nat × List Value) 2 (Far.bm 13 2047) (fun s => [(30, .tuple #[.agg s.2.toArray, .bool true]), (23, .tuple #[.agg s.2.toArray, .bool true]), (31, .agg s.2.toArray), (32, .bool true), (6, .pointer (some ⟨s.1, 0, none⟩))]) (fun s w' => LoopF w.heap.size g gt k w wr #[.slice Ah 512 ch, .slice Ac 512 cc, .bool isb, .int .u64 x, .slice V1 n1 c1, .int .u32 y, .slice V3 n3 c3, .slice Bh 512 ch2, .slice Bc 512 cc2, .bool isb2, .int .u64 x2, .slice V12 n12 c12, .int .u32 y2, .slice V32 n32 c32, .slice L n cl] s.1 s.2 w') ?_ ?_
      rotate_left
      · intro hCont
        refine two_ (i := 6) (j := 10) (Ni := some 30) (Nj := some 6) (Far.bm 13 127) (Far.bm 13 1087) rfl rfl rfl rfl (two_of HT_.out (by kernel_rfl)) (by decide) (by decide) (fun K hK => ?_) (fun K hK => ?_)
        · skip
          refine goes_ Try.func65 (by kernel_rfl) rfl #[.pointer (some ⟨g, 0, none⟩), .agg #[.slice Ah 512 ch, .slice Ac 512 cc, .bool isb, .int .u64 x, .slice V1 n1 c1, .int .u32 y, .slice V3 n3 c3, .slice Bh 512 ch2, .slice Bc 512 cc2, .bool isb2, .int .u64 x2, .slice V12 n12 c12, .int .u32 y2, .slice V32 n32 c32, .slice L n cl], .agg d.vals.toArray] (by rfl) rfl rfl (by first | (simp only [List.map_toArray, List.map_cons, List.map_nil]; done) | (simp only [List.map_toArray, List.map_cons, List.map_nil]; rfl)) ?_
          with_reducible refine (HDEED.out _ (below_drew1 (Below.refl wr.heap.size wr))).mono ?_
          rintro e w2 ⟨vs', m1', m2', lo', A1', A2', steps', rfl, hS', hT', hF', hV'⟩
          refine ⟨_, rfl, ?_⟩
          have hB0 := (below_drew1 (Below.refl wr.heap.size wr))
          have hSb := HSr.out.below hB0
          have hLz := (Leaves.of_below hB0 hbr).trans (Leaves.of_mv hV' hSb (Nat.le_trans hbr hB0.size))
          have hgt2 := blk_mv (blk_below HGT.out hB0) hV' hSb (by decide) (by decide)
          have hB2 := (hV'.lift hSb (below_step HBr.out hB0) (Nat.le_trans hbr hB0.size)).1
          refine hK.out _ _ ⟨cells15 hgt2, (HSD.out.step hLz).now⟩ (fun hHeld => ?_)
          clear hK K
          refine norm_ (a' := ?_) ?_ ?_; rotate_left; (show Act.put _ (some 30) _ = _; simp only [Act.put, List.setIfInBounds_toArray, List.set_cons_zero, List.set_cons_succ, i64_w, i32_w]; rfl)
          refine pure_ (i := 7) (N := some 23) (v := ?_) (a' := ?_) (Far.bm 13 255) rfl rfl (any_of HT_.out (by kernel_rfl)) (fun _ _ _ h => h) (Or.inl ⟨by rfl, ?_⟩) ?_ ?_; rotate_left; (intro w'; go_simp; with_reducible rfl); rotate_left; (simp only [Act.put, List.setIfInBounds_toArray, List.set_cons_zero, List.set_cons_succ, i64_w, i32_w]; rfl)
          refine pure_ (i := 8) (N := some 31) (v := ?_) (a' := ?_) (Far.bm 13 511) rfl rfl (any_of HT_.out (by kernel_rfl)) (fun _ _ _ h => h) (Or.inl ⟨by rfl, ?_⟩) ?_ ?_; rotate_left; (intro w'; go_simp; with_reducible rfl); rotate_left; (simp only [Act.put, List.setIfInBounds_toArray, List.set_cons_zero, List.set_cons_succ, i64_w, i32_w]; rfl)
          refine pure_ (i := 9) (N := some 32) (v := ?_) (a' := ?_) (Far.bm 13 1023) rfl rfl (any_of HT_.out (by kernel_rfl)) (fun _ _ _ h => h) (Or.inl ⟨by rfl, ?_⟩) ?_ ?_; rotate_left; (intro w'; go_simp; with_reducible rfl); rotate_left; (simp only [Act.put, List.setIfInBounds_toArray, List.set_cons_zero, List.set_cons_succ, i64_w, i32_w]; rfl)
          refine one_ (i := 10) (N := some 6) (Far.bm 13 2047) rfl rfl (one_of HT_.out (by kernel_rfl)) (by decide) (fun K hK => ?_)
          refine value_ (w1 := ?_) (v := ?_) (by rfl) rfl ?_ ?_
          rotate_left 2
          · go_simp
            constructor
            · rfl
            · rfl
          have hsz2 := hB2.size
          refine hK.out _ _ ⟨cells15 (blk_alloc hgt2 (.cells z15 100)), (HSD.out.step (hLz.trans (Leaves.of_below (below_alloc (Below.refl w2.heap.size w2) (.cells z15 100)) hsz2))).now⟩ (fun hHeld => ?_)
          clear hK K
          refine norm_ (a' := ?_) ?_ ?_; rotate_left; (show Act.put _ (some 6) _ = _; simp only [Act.put, List.setIfInBounds_toArray, List.set_cons_zero, List.set_cons_succ, i64_w, i32_w]; rfl)
          exact norm_ (by simp only [putAll, Act.put, List.setIfInBounds_toArray, List.set_cons_zero, List.set_cons_succ]) (hCont (w2.heap.size, vs') _ ⟨m1', m2', lo', A1', A2', steps', hS'.below (below_alloc (Below.refl w2.heap.size w2) (.cells z15 100)), hT'.step (Leaves.of_below (below_alloc (Below.refl w2.heap.size w2) (.cells z15 100)) hsz2), hF', blk_new w2 (.cells z15 100), blk_alloc hgt2 (.cells z15 100), below_step hB2 (below_alloc (Below.refl w2.heap.size w2) (.cells z15 100)), hLz.trans (Leaves.of_below (below_alloc (Below.refl w2.heap.size w2) (.cells z15 100)) hsz2), (by have := blk_lt hgt2; omega), hsz2⟩)
        · skip
          refine value_ (w1 := ?_) (v := ?_) (by rfl) rfl ?_ ?_
          rotate_left 2
          · go_simp
            constructor
            · rfl
            · rfl
          refine hK.out _ _ ⟨cells15 (blk_below HGT.out (below_drew1 (below_alloc (Below.refl wr.heap.size wr) (.cells z15 100)))), (HSD.out.step (Leaves.of_below (below_drew1 (below_alloc (Below.refl wr.heap.size wr) (.cells z15 100))) hbr)).now⟩ (fun hHeld => ?_)
          clear hK K
          refine norm_ (a' := ?_) ?_ ?_; rotate_left; (show Act.put _ (some 6) _ = _; simp only [Act.put, List.setIfInBounds_toArray, List.set_cons_zero, List.set_cons_succ, i64_w, i32_w]; rfl)
          refine one_ (i := 6) (N := some 30) (Far.bm 13 1151) rfl rfl (one_of HT_.out (by kernel_rfl)) (by decide) (fun K hK => ?_)
          refine goes_ Try.func65 (by kernel_rfl) rfl #[.pointer (some ⟨g, 0, none⟩), .agg #[.slice Ah 512 ch, .slice Ac 512 cc, .bool isb, .int .u64 x, .slice V1 n1 c1, .int .u32 y, .slice V3 n3 c3, .slice Bh 512 ch2, .slice Bc 512 cc2, .bool isb2, .int .u64 x2, .slice V12 n12 c12, .int .u32 y2, .slice V32 n32 c32, .slice L n cl], .agg d.vals.toArray] (by rfl) rfl rfl (by first | (simp only [List.map_toArray, List.map_cons, List.map_nil]; done) | (simp only [List.map_toArray, List.map_cons, List.map_nil]; rfl)) ?_
          with_reducible refine (HDEED.out _ (below_drew1 (below_alloc (Below.refl wr.heap.size wr) (.cells z15 100)))).mono ?_
          rintro e w2 ⟨vs', m1', m2', lo', A1', A2', steps', rfl, hS', hT', hF', hV'⟩
          refine ⟨_, rfl, ?_⟩
          have hB0 := (below_drew1 (below_alloc (Below.refl wr.heap.size wr) (.cells z15 100)))
          have hSb := HSr.out.below hB0
          have hLz := (Leaves.of_below hB0 hbr).trans (Leaves.of_mv hV' hSb (Nat.le_trans hbr hB0.size))
          have hgt2 := blk_mv (blk_below HGT.out hB0) hV' hSb (by decide) (by decide)
          have hgu2 := blk_mv (w := (wr.alloc (.cells z15 100)).drew) (blk_new wr (.cells z15 100)) hV' hSb (by decide) (by decide)
          have hB2 := (hV'.lift hSb (below_step HBr.out hB0) (Nat.le_trans hbr hB0.size)).1
          refine hK.out _ _ ⟨cells15 hgt2, (HSD.out.step hLz).now⟩ (fun hHeld => ?_)
          clear hK K
          refine norm_ (a' := ?_) ?_ ?_; rotate_left; (show Act.put _ (some 30) _ = _; simp only [Act.put, List.setIfInBounds_toArray, List.set_cons_zero, List.set_cons_succ, i64_w, i32_w]; rfl)
          refine pure_ (i := 7) (N := some 23) (v := ?_) (a' := ?_) (Far.bm 13 1279) rfl rfl (any_of HT_.out (by kernel_rfl)) (fun _ _ _ h => h) (Or.inl ⟨by rfl, ?_⟩) ?_ ?_; rotate_left; (intro w'; go_simp; with_reducible rfl); rotate_left; (simp only [Act.put, List.setIfInBounds_toArray, List.set_cons_zero, List.set_cons_succ, i64_w, i32_w]; rfl)
          refine pure_ (i := 8) (N := some 31) (v := ?_) (a' := ?_) (Far.bm 13 1535) rfl rfl (any_of HT_.out (by kernel_rfl)) (fun _ _ _ h => h) (Or.inl ⟨by rfl, ?_⟩) ?_ ?_; rotate_left; (intro w'; go_simp; with_reducible rfl); rotate_left; (simp only [Act.put, List.setIfInBounds_toArray, List.set_cons_zero, List.set_cons_succ, i64_w, i32_w]; rfl)
          refine pure_ (i := 9) (N := some 32) (v := ?_) (a' := ?_) (Far.bm 13 2047) rfl rfl (any_of HT_.out (by kernel_rfl)) (fun _ _ _ h => h) (Or.inl ⟨by rfl, ?_⟩) ?_ ?_; rotate_left; (intro w'; go_simp; with_reducible rfl); rotate_left; (simp only [Act.put, List.setIfInBounds_toArray, List.set_cons_zero, List.set_cons_succ, i64_w, i32_w]; rfl)
          exact norm_ (by simp only [putAll, Act.put, List.setIfInBounds_toArray, List.set_cons_zero, List.set_cons_succ]) (hCont (wr.heap.size, vs') _ ⟨m1', m2', lo', A1', A2', steps', hS', hT', hF', hgu2, hgt2, hB2, hLz, (by have := blk_lt HGT.out; omega), hbr⟩)
      rintro ⟨gu, vs2⟩ w4 ⟨m1', m2', lo', A1', A2', steps', hS4, hT4, hF4, hgu4, hgt4, hB4, hL4, hne4, hle4⟩
      obtain ⟨Qh, qh, Qc, qc, qsb, qx, QV1, qn1, qc1, qy, QV3, qn3, qc3, Rh, rh, Rc, rc, rsb, rx, RV1, rn1, rc1, ry, RV3, rn3, rc3, QL, qn, qcl, qrows, rfl, -⟩ := hT4.shape
      have hHeld := And.intro (cells15 hgt4) (HSD.out.step hL4).now
      obtain ⟨z0, z1, z2, z3, z4, z5, z6, z7, z8, z9, z10, z11, z12, z13, z14⟩ := cells15 hgu4
      obtain ⟨f0, f1, f2, f3, f4, f5, f6, f7, f8, f9, f10, f11, f12, f13, f14⟩ := frozen15 hgu4
      refine norm_ (a' := ?_) ?_ ?_
      rotate_left
      · simp only [putAll, Act.put, List.setIfInBounds_toArray, List.set_cons_zero, List.set_cons_succ]
        rfl
      refine last_ (i := 11) (N := none) (Far.bm 13 4095) rfl rfl (one_of HT_.out (by kernel_rfl)) (by decide) (fun K hK => ?_)
      refine skip_ (w1 := ?_) (by rfl) rfl ?_ ?_
      rotate_left
      · go_simp
        rfl
      refine hK.out _ _ ?_
      clear hK K
      refine pure_ (i := 12) (N := some 7) (v := ?_) (a' := ?_) (Far.bm 13 8191) rfl rfl (any_of HT_.out (by kernel_rfl)) (fun _ _ _ h => h) (Or.inl ⟨by rfl, ?_⟩) ?_ ?_; rotate_left; (intro w'; go_simp; with_reducible rfl); rotate_left; (simp only [Act.put, List.setIfInBounds_toArray, List.set_cons_zero, List.set_cons_succ, i64_w, i32_w]; rfl)
      refine done_ (done_of HT_.out (by kernel_rfl)) ?_
      clear z0 z1 z2 z3 z4 z5 z6 z7 z8 z9 z10 z11 z12 z13 z14 f0 f1 f2 f3 f4 f5 f6 f7 f8 f9 f10 f11 f12 f13 f14
      have hs5 := setAll_spec hgu4 [.slice Qh 512 qh, .slice Qc 512 qc, .bool qsb, .int .u64 qx, .slice QV1 qn1 qc1, .int .u32 qy, .slice QV3 qn3 qc3, .slice Rh 512 rh, .slice Rc 512 rc, .bool rsb, .int .u64 rx, .slice RV1 rn1 rc1, .int .u32 ry, .slice RV3 rn3 rc3, .slice QL qn qcl] rfl
      rw [setAll15]
      generalize setAll (w4) gu 0 [.slice Qh 512 qh, .slice Qc 512 qc, .bool qsb, .int .u64 qx, .slice QV1 qn1 qc1, .int .u32 qy, .slice QV3 qn3 qc3, .slice Rh 512 rh, .slice Rc 512 rc, .bool rsb, .int .u64 rx, .slice RV1 rn1 rc1, .int .u32 ry, .slice RV3 rn3 rc3, .slice QL qn qcl] = W5 at hs5 ⊢
      have hS5 := hS4.all hgu4 (by decide) hs5.2.1
      have hl5 := leaves_all hgu4 (.inl rfl) hle4 hs5.2.1
      have HT5 := Aside0.mk (hT4.step hl5)
      have HL5 := Aside0.mk (hL4.trans hl5)
      have HB5 := Aside0.mk (hs5.2.2 _ _ hle4 hB4)
      have hgt5 := (hs5.2.1 gt (Ne.symm hne4)).trans hgt4
      have HS5 := Aside0.mk hS5
      have HF5 := Aside0.mk hF4
      have HGT5 := Aside0.mk hgt5
      obtain ⟨q0, q1, q2, q3, q4, q5, q6, q7, q8, q9, q10, q11, q12, q13, q14⟩ := cells15 hs5.1
      obtain ⟨t0, t1, t2, t3, t4, t5, t6, t7, t8, t9, t10, t11, t12, t13, t14⟩ := cells15 hgt5
      obtain ⟨f0, f1, f2, f3, f4, f5, f6, f7, f8, f9, f10, f11, f12, f13, f14⟩ := frozen15 hgt5
      clear hS5 hl5 hgt5 hs5 hS4 hT4 hF4 hgu4 hgt4 hB4 hL4 hHeld HSr HTr HFr HGT HDEED
      go_wp2_with fail
      clear q0 q1 q2 q3 q4 q5 q6 q7 q8 q9 q10 q11 q12 q13 q14 t0 t1 t2 t3 t4 t5 t6 t7 t8 t9 t10 t11 t12 t13 t14 f0 f1 f2 f3 f4 f5 f6 f7 f8 f9 f10 f11 f12 f13 f14
      have hs6 := setAll_spec HGT5.out [.slice Qh 512 qh, .slice Qc 512 qc, .bool qsb, .int .u64 qx, .slice QV1 qn1 qc1, .int .u32 qy, .slice QV3 qn3 qc3, .slice Rh 512 rh, .slice Rc 512 rc, .bool rsb, .int .u64 rx, .slice RV1 rn1 rc1, .int .u32 ry, .slice RV3 rn3 rc3, .slice QL qn qcl] rfl
      rw [setAll15]
      generalize setAll (W5) gt 0 [.slice Qh 512 qh, .slice Qc 512 qc, .bool qsb, .int .u64 qx, .slice QV1 qn1 qc1, .int .u32 qy, .slice QV3 qn3 qc3, .slice Rh 512 rh, .slice Rc 512 rc, .bool rsb, .int .u64 rx, .slice RV1 rn1 rc1, .int .u32 ry, .slice RV3 rn3 rc3, .slice QL qn qcl] = W6 at hs6 ⊢
      have HS6 := Aside0.mk (HS5.out.all HGT5.out (by decide) hs6.2.1)
      have hl6 := leaves_all HGT5.out (.inl rfl) hbg hs6.2.1
      have HT6 := Aside0.mk (HT5.out.step hl6)
      have HSD6 := Aside0.mk (HSD.out.step (HL5.out.trans hl6))
      have hB6 := hs6.2.2 _ _ hbg HB5.out
      have hb6 := hB6.size
      have HB6 := Aside0.mk hB6
      have HGT6 := Aside0.mk hs6.1
      have HLIKE : Aside0 (∀ wq, Below W6.heap.size W6 wq → ∀ i : Int, (-9223372036854775808 ≤ i ∧ i ≤ 9223372036854775807) → Calls Try.prog 66 #[.pointer (some ⟨g, 0, none⟩), .agg #[.slice Qh 512 qh, .slice Qc 512 qc, .bool qsb, .int .u64 qx, .slice QV1 qn1 qc1, .int .u32 qy, .slice QV3 qn3 qc3, .slice Rh 512 rh, .slice Rc 512 rc, .bool rsb, .int .u64 rx, .slice RV1 rn1 rc1, .int .u32 ry, .slice RV3 rn3 rc3, .slice QL qn qcl], .int .i64 i] wq fun e w' => e = .returned (.bool true) ∧ Below wq.heap.size wq w') := ⟨fun wq hq i hi => like_true wq w.heap.size g m1' m2' (Nat.le_trans hb6 hq.size) lo' _ A1' A2' steps' (k + 1) (HS6.out.below hq) (HT6.out.step (Leaves.of_below hq hb6)) HF5.out i hi⟩
      clear hl6 hs6 hB6 HSD HL5 HB5 HS5 HT5 HGT5 HOK HSZ
      have hk9 : IntKind.i64.wrap ((k : Int).tmod 9) = (k : Int).tmod 9 := tmod_i64 9 (by omega) (by omega)
      have hk9b := Int.tmod_lt_of_pos (k : Int) (show (0 : Int) < 9 by omega)
      have hk9c := Int.lt_tmod_of_pos (k : Int) (show (0 : Int) < 9 by omega)
      refine start_ (n := 21) (S := fun w' => S15 gt (.slice Qh 512 qh) (.slice Qc 512 qc) (.bool qsb) (.int .u64 qx) (.slice QV1 qn1 qc1) (.int .u32 qy) (.slice QV3 qn3 qc3) (.slice Rh 512 rh) (.slice Rc 512 rc) (.bool rsb) (.int .u64 rx) (.slice RV1 rn1 rc1) (.int .u32 ry) (.slice RV3 rn3 rc3) (.slice QL qn qcl) w' ∧ SD (adl.add (k * 5)) d w') (ds := []) (Far.bm 21 0) (by kernel_rfl) rfl rfl ⟨cells15 (blk_below HGT6.out (below_drew1 (Below.refl W6.heap.size W6))), (HSD6.out.step (Leaves.of_below (below_drew1 (Below.refl W6.heap.size W6)) hb6)).now⟩ (fun hHeld => ?_)
      refine with_tabW does.tab10 does.bits10 (fun HT_ HW_ => ?_)
      refine pure_ (i := 0) (N := some 34) (v := ?_) (a' := ?_) (Far.bm 21 1) rfl rfl (any_of HT_.out (by kernel_rfl)) (fun _ _ _ h => h) (Or.inl ⟨by rfl, ?_⟩) ?_ ?_; rotate_left; (intro w'; go_simp; with_reducible rfl); rotate_left; (simp only [Act.put, List.setIfInBounds_toArray, List.set_cons_zero, List.set_cons_succ, i64_w, i32_w]; rfl)
      refine pure_ (i := 1) (N := some 35) (v := ?_) (a' := ?_) (Far.bm 21 3) rfl rfl (any_of HT_.out (by kernel_rfl)) (fun _ _ _ h => h) (Or.inl ⟨by rfl, ?_⟩) ?_ ?_; rotate_left; (intro w'; go_simp; with_reducible rfl); rotate_left; (simp only [Act.put, List.setIfInBounds_toArray, List.set_cons_zero, List.set_cons_succ, i64_w, i32_w]; rfl)
      refine pure_ (i := 2) (N := some 36) (v := ?_) (a' := ?_) (Far.bm 21 7) rfl rfl (any_of HT_.out (by kernel_rfl)) (fun _ _ _ h => h) (Or.inl ⟨by rfl, ?_⟩) ?_ ?_; rotate_left; (intro w'; go_simp; with_reducible rfl); rotate_left; (simp only [Act.put, List.setIfInBounds_toArray, List.set_cons_zero, List.set_cons_succ, i64_w, i32_w]; rfl)
      refine pure_ (i := 3) (N := some 37) (v := ?_) (a' := ?_) (Far.bm 21 15) rfl rfl (any_of HT_.out (by kernel_rfl)) (fun _ _ _ h => h) (Or.inl ⟨by rfl, ?_⟩) ?_ ?_; rotate_left; (intro w'; go_simp; with_reducible rfl); rotate_left; (simp only [Act.put, List.setIfInBounds_toArray, List.set_cons_zero, List.set_cons_succ, i64_w, i32_w]; rfl)
      refine pure_ (i := 5) (N := some 39) (v := ?_) (a' := ?_) (Far.bm 21 47) rfl rfl (any_of HT_.out (by kernel_rfl)) (fun _ _ _ h => h) (Or.inl ⟨by rfl, ?_⟩) ?_ ?_; rotate_left; (intro w'; go_simp; with_reducible rfl); rotate_left; (simp only [Act.put, List.setIfInBounds_toArray, List.set_cons_zero, List.set_cons_succ, i64_w, i32_w]; rfl)
      refine pure_ (i := 6) (N := some 40) (v := ?_) (a' := ?_) (Far.bm 21 111) rfl rfl (any_of HT_.out (by kernel_rfl)) (fun _ _ _ h => h) (Or.inl ⟨by rfl, ?_⟩) ?_ ?_; rotate_left; (intro w'; go_simp; with_reducible rfl); rotate_left; (simp only [Act.put, List.setIfInBounds_toArray, List.set_cons_zero, List.set_cons_succ, i64_w, i32_w]; rfl)
      refine pure_ (i := 7) (N := some 41) (v := ?_) (a' := ?_) (Far.bm 21 239) rfl rfl (any_of HT_.out (by kernel_rfl)) (fun _ _ _ h => h) (Or.inl ⟨by rfl, ?_⟩) ?_ ?_; rotate_left; (intro w'; go_simp; with_reducible rfl); rotate_left; (simp only [Act.put, List.setIfInBounds_toArray, List.set_cons_zero, List.set_cons_succ, i64_w, i32_w]; rfl)
      refine pure_ (i := 8) (N := some 42) (v := ?_) (a' := ?_) (Far.bm 21 495) rfl rfl (any_of HT_.out (by kernel_rfl)) (fun _ _ _ h => h) (Or.inl ⟨by rfl, ?_⟩) ?_ ?_; rotate_left; (intro w'; go_simp; with_reducible rfl); rotate_left; (simp only [Act.put, List.setIfInBounds_toArray, List.set_cons_zero, List.set_cons_succ, i64_w, i32_w]; rfl)
      refine take_ (i := 4) (N := some 38) (v := ?_) (a' := ?_) (Far.bm 21 511) rfl rfl (take_ofW HT_.out HW_.out (by kernel_rfl)) (fun _ _ _ h => h) (Or.inl ⟨by rfl, ?_⟩) hHeld ?_ ?_; rotate_left; (rintro w' ⟨⟨s0, s1, s2, s3, s4, s5, s6, s7, s8, s9, s10, s11, s12, s13, s14⟩, d0, d1, d2, d3, d4⟩; go_simp; with_reducible rfl); rotate_left; (simp only [Act.put, List.setIfInBounds_toArray, List.set_cons_zero, List.set_cons_succ, i64_w, i32_w]; rfl)
      refine take_ (i := 9) (N := some 43) (v := ?_) (a' := ?_) (Far.bm 21 1023) rfl rfl (take_ofW HT_.out HW_.out (by kernel_rfl)) (fun _ _ _ h => h) (Or.inl ⟨by rfl, ?_⟩) hHeld ?_ ?_; rotate_left; (rintro w' ⟨⟨s0, s1, s2, s3, s4, s5, s6, s7, s8, s9, s10, s11, s12, s13, s14⟩, d0, d1, d2, d3, d4⟩; go_simp; with_reducible rfl); rotate_left; (simp only [Act.put, List.setIfInBounds_toArray, List.set_cons_zero, List.set_cons_succ, i64_w, i32_w]; rfl)
      refine one_ (i := 10) (N := some 44) (Far.bm 21 2047) rfl rfl (one_of HT_.out (by kernel_rfl)) (by decide) (fun K hK => ?_)
      refine goes_ Try.func66 (by kernel_rfl) rfl #[.pointer (some ⟨g, 0, none⟩), .agg #[.slice Qh 512 qh, .slice Qc 512 qc, .bool qsb, .int .u64 qx, .slice QV1 qn1 qc1, .int .u32 qy, .slice QV3 qn3 qc3, .slice Rh 512 rh, .slice Rc 512 rc, .bool rsb, .int .u64 rx, .slice RV1 rn1 rc1, .int .u32 ry, .slice RV3 rn3 rc3, .slice QL qn qcl], .int .i64 (d.i)] (by rfl) rfl rfl (by first | (simp only [List.map_toArray, List.map_cons, List.map_nil]; done) | (simp only [List.map_toArray, List.map_cons, List.map_nil]; rfl)) ?_
      with_reducible refine (HLIKE.out _ (below_drew1 (Below.refl W6.heap.size W6)) (d.i) (by first | exact hid | omega)).mono ?_
      rintro e w8 ⟨rfl, hb8⟩
      refine ⟨_, rfl, ?_⟩
      have hb8' := below_step (below_drew1 (Below.refl W6.heap.size W6)) hb8
      refine hK.out _ _ ⟨cells15 (blk_below HGT6.out hb8'), (HSD6.out.step (Leaves.of_below hb8' hb6)).now⟩ (fun hHeld => ?_)
      clear hK K
      refine norm_ (a' := ?_) ?_ ?_; rotate_left; (show Act.put _ (some 44) _ = _; simp only [Act.put, List.setIfInBounds_toArray, List.set_cons_zero, List.set_cons_succ, i64_w, i32_w]; rfl)
      refine pure_ (i := 11) (N := some 45) (v := ?_) (a' := ?_) (Far.bm 21 4095) rfl rfl (any_of HT_.out (by kernel_rfl)) (fun _ _ _ h => h) (Or.inl ⟨by rfl, ?_⟩) ?_ ?_; rotate_left; (intro w'; go_simp; with_reducible rfl); rotate_left; (simp only [Act.put, List.setIfInBounds_toArray, List.set_cons_zero, List.set_cons_succ, i64_w, i32_w]; rfl)
      refine pure_ (i := 12) (N := some 46) (v := ?_) (a' := ?_) (Far.bm 21 8191) rfl rfl (any_of HT_.out (by kernel_rfl)) (fun _ _ _ h => h) (Or.inl ⟨by rfl, ?_⟩) ?_ ?_; rotate_left; (intro w'; go_simp; with_reducible rfl); rotate_left; (simp only [Act.put, List.setIfInBounds_toArray, List.set_cons_zero, List.set_cons_succ, i64_w, i32_w]; rfl)
      refine pure_ (i := 13) (N := some 47) (v := ?_) (a' := ?_) (Far.bm 21 16383) rfl rfl (any_of HT_.out (by kernel_rfl)) (fun _ _ _ h => h) (Or.inl ⟨by rfl, ?_⟩) ?_ ?_; rotate_left; (intro w'; go_simp; with_reducible rfl); rotate_left; (simp only [Act.put, List.setIfInBounds_toArray, List.set_cons_zero, List.set_cons_succ, i64_w, i32_w]; rfl)
      refine pure_ (i := 14) (N := some 48) (v := ?_) (a' := ?_) (Far.bm 21 32767) rfl rfl (any_of HT_.out (by kernel_rfl)) (fun _ _ _ h => h) (Or.inl ⟨by rfl, ?_⟩) ?_ ?_; rotate_left; (intro w'; go_simp; with_reducible rfl); rotate_left; (simp only [Act.put, List.setIfInBounds_toArray, List.set_cons_zero, List.set_cons_succ, i64_w, i32_w]; rfl)
      refine pure_ (i := 16) (N := some 50) (v := ?_) (a' := ?_) (Far.bm 21 98303) rfl rfl (any_of HT_.out (by kernel_rfl)) (fun _ _ _ h => h) (Or.inl ⟨by rfl, ?_⟩) ?_ ?_; rotate_left; (intro w'; go_simp; with_reducible rfl); rotate_left; (simp only [Act.put, List.setIfInBounds_toArray, List.set_cons_zero, List.set_cons_succ, i64_w, i32_w]; rfl)
      refine pure_ (i := 17) (N := some 51) (v := ?_) (a' := ?_) (Far.bm 21 229375) rfl rfl (any_of HT_.out (by kernel_rfl)) (fun _ _ _ h => h) (Or.inl ⟨by rfl, ?_⟩) ?_ ?_; rotate_left; (intro w'; go_simp; with_reducible rfl); rotate_left; (simp only [Act.put, List.setIfInBounds_toArray, List.set_cons_zero, List.set_cons_succ, i64_w, i32_w]; rfl)
      refine take_ (i := 15) (N := some 49) (v := ?_) (a' := ?_) (Far.bm 21 262143) rfl rfl (take_ofW HT_.out HW_.out (by kernel_rfl)) (fun _ _ _ h => h) (Or.inl ⟨by rfl, ?_⟩) hHeld ?_ ?_; rotate_left; (rintro w' ⟨⟨s0, s1, s2, s3, s4, s5, s6, s7, s8, s9, s10, s11, s12, s13, s14⟩, d0, d1, d2, d3, d4⟩; go_simp; with_reducible rfl); rotate_left; (simp only [Act.put, List.setIfInBounds_toArray, List.set_cons_zero, List.set_cons_succ, i64_w, i32_w]; rfl)
      refine one_ (i := 18) (N := some 52) (Far.bm 21 524287) rfl rfl (one_of HT_.out (by kernel_rfl)) (by decide) (fun K hK => ?_)
      refine goes_ Try.func66 (by kernel_rfl) rfl #[.pointer (some ⟨g, 0, none⟩), .agg #[.slice Qh 512 qh, .slice Qc 512 qc, .bool qsb, .int .u64 qx, .slice QV1 qn1 qc1, .int .u32 qy, .slice QV3 qn3 qc3, .slice Rh 512 rh, .slice Rc 512 rc, .bool rsb, .int .u64 rx, .slice RV1 rn1 rc1, .int .u32 ry, .slice RV3 rn3 rc3, .slice QL qn qcl], .int .i64 ((k : Int).tmod 9)] (by rfl) rfl rfl (by first | (simp only [List.map_toArray, List.map_cons, List.map_nil]; done) | (simp only [List.map_toArray, List.map_cons, List.map_nil]; rfl)) ?_
      with_reducible refine (HLIKE.out _ hb8' ((k : Int).tmod 9) (by first | exact hid | omega)).mono ?_
      rintro e w9 ⟨rfl, hb9⟩
      refine ⟨_, rfl, ?_⟩
      have hb9' := below_step hb8' hb9
      refine hK.out _ _ ⟨cells15 (blk_below HGT6.out hb9'), (HSD6.out.step (Leaves.of_below hb9' hb6)).now⟩ (fun hHeld => ?_)
      clear hK K
      refine norm_ (a' := ?_) ?_ ?_; rotate_left; (show Act.put _ (some 52) _ = _; simp only [Act.put, List.setIfInBounds_toArray, List.set_cons_zero, List.set_cons_succ, i64_w, i32_w]; rfl)
      refine pure_ (i := 19) (N := some 53) (v := ?_) (a' := ?_) (Far.bm 21 1048575) rfl rfl (any_of HT_.out (by kernel_rfl)) (fun _ _ _ h => h) (Or.inl ⟨by rfl, ?_⟩) ?_ ?_; rotate_left; (intro w'; go_simp; with_reducible rfl); rotate_left; (simp only [Act.put, List.setIfInBounds_toArray, List.set_cons_zero, List.set_cons_succ, i64_w, i32_w]; rfl)
      refine pure_ (i := 20) (N := some 54) (v := ?_) (a' := ?_) (Far.bm 21 2097151) rfl rfl (any_of HT_.out (by kernel_rfl)) (fun _ _ _ h => h) (Or.inl ⟨by rfl, ?_⟩) ?_ ?_; rotate_left; (intro w'; go_simp; with_reducible rfl); rotate_left; (simp only [Act.put, List.setIfInBounds_toArray, List.set_cons_zero, List.set_cons_succ, i64_w, i32_w]; rfl)
      refine done_ (done_of HT_.out (by kernel_rfl)) ?_
      go_wp2_with fail
      have HB9 := Aside0.mk (below_step HB6.out hb9')
      have HS9 := Aside0.mk (HS6.out.below hb9')
      have HT9 := Aside0.mk (HT6.out.step (Leaves.of_below hb9' hb6))
      have HG9 := Aside0.mk (blk_below HGT6.out hb9')
      go_roundw
      case measure => simp [intOf]; omega
      case rel => exact ⟨k + 1, m1', m2', lo', A1', A2', steps', _, by omega, by go_num, rfl, HG9, HS9, HT9, HF5, HB9⟩
    · have hlt' : ¬ (k : Int) < (ds.length : Int) := by omega
      go_wp2_with fail
      go_ret
      exact ⟨rfl, HBr.out⟩
end Go.Proofs.Ytliohoalackhiaa.T
