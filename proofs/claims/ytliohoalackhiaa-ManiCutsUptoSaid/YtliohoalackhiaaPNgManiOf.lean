/- mani.Of tells an arena's manifest: its session, its segments' sizes, and the sum of the session's bytes, the sizes' and the words': for every arena that may be, in whatever memory. -/
import Derived.Test.YtliohoalackhiaaPNgABytes
import Derived.Test.YtliohoalackhiaaPNgCrc
import Derived.Test.YtliohoalackhiaaPNx3
import Derived.Test.YtliohoalackhiaaPNx2
namespace Go.Proofs.Ytliohoalackhiaa.N
open Go.RowKit Go.Shelf Go.Proofs.YtliohoalackhiaaW.PrintWords Go.Proofs.YtliohoalackhiaaW.PrintLast Go.Proofs.YtliohoalackhiaaW.PrintMore
set_option linter.unusedVariables false
set_option linter.unusedSimpArgs false
set_option maxRecDepth 100000 in
set_option maxHeartbeats 2000000 in
theorem of_more (b6 b7 g : Nat) (n : Int) (A : Option Addr) (c : Nat) (l : List Int) (w : World) (h6 : w.cell? ⟨b6, 0, none⟩ = some (.pointer (some ⟨g, 0, none⟩))) (h7 : w.cell? ⟨b7, 0, none⟩ = some (.int .u32 n)) (f7 : w.frozen? ⟨b7, 0, none⟩ = false) (hT : TabIs w g tabI) (hr : ReadsInt w .u8 A l.length l) :
    Calls Try.prog 79 #[.slice A l.length c, .pointer (some ⟨b6, 0, none⟩), .pointer (some ⟨b7, 0, none⟩)] w fun e w' => (∃ v, e = .returned v) ∧ w' = w.setCell ⟨b7, 0, none⟩ (.int .u32 (moreI tabI n l)) := by
  obtain ⟨m, hm⟩ : ∃ m, moreI tabI n l = m := ⟨_, rfl⟩
  have HM : Calls Try.prog 80 #[.pointer (some ⟨g, 0, none⟩), .int .u32 n, .slice A l.length c] w fun e w' => e = .returned (.int .u32 m) ∧ w' = w := (more_any g tabI n A c l w hT hr).mono fun _ _ h => ⟨by rw [h.1, hm], h.2.symm⟩
  have HM2 := Lib.hid HM
  rw [hm]
  clear HM hT hr hm
  go_enter Try.func79, Try.ntmps79
  go_wp2_with fail
  refine HM2.out.mono ?_
  rintro e w' ⟨rfl, rfl⟩
  go_wp2
  go_end0
  exact ⟨⟨_, rfl⟩, rfl⟩
/-- the bytes of a size -/
def put2 (x : Int) : List Int := (word_Put.f 9 (IntKind.u64.wrap x) 2).getD []
theorem put2_some (x : Int) : word_Put.f 9 (IntKind.u64.wrap x) 2 = some (put2 x) := by
  have h : ∃ l, word_Put.f 9 (IntKind.u64.wrap x) 2 = some l := by
    simp [word_Put.f, word_Put.l0, mx, mn, wrap64]
  obtain ⟨l, e⟩ := h
  unfold put2
  rw [e]; rfl
/-- What mani.Of computes. -/
def mani_Of.f (k : Nat) (a0 : Int) (l1 : List (List Int)) : Option (Int × List Int × Int × Int) := (arena_Right.f k l1).bind fun ok => if ok = true then ((arena_Sizes.f k l1).bind fun ss => ((arena_Bytes.f l1).bind fun bs => some (a0, ss, moreI tabI (ss.foldl (fun n x => moreI tabI n (put2 x)) (moreI tabI 0 (put8 a0))) bs, 0))) else some (0, [], 0, 1)
set_option maxRecDepth 100000 in
set_option maxHeartbeats 4000000 in
theorem of_no (k : Nat) (a0 : Int) (A1 : Option Addr) (c1 : Nat) (l1 : List (List Int)) (w : World) (hr1 : Kd.C (Kd.slice 38 (Kd.int .u64)) w A1 l1.length l1) (hc1 : l1.length ≤ c1) (h : arena_Right.f k l1 = some false) :
    Calls Try.prog 27 #[.int .u64 a0, .slice A1 l1.length c1] w fun e w' => e = .returned (.tuple #[.agg #[.int .u64 0, .slice none 0 0, .int .u32 0], .int .u16 1]) ∧ Below w.heap.size w w' := by
  have HR := Aside0.mk hr1
  have HA := Aside0.mk h
  clear hr1 h
  go_enter Try.func27, Try.ntmps27
  go_wp2_with fail
  refine (arena_Right.calls k A1 c1 l1 false _ (Kd.C_alloc HR.out _) hc1 HA.out).mono ?_
  rintro e w2 ⟨rfl, hb2⟩
  have HB := Aside0.mk (((Below.refl w.heap.size w).alloc (Nat.le_refl _) _).trans (hb2.mono (by simp)) : Below w.heap.size w w2)
  have h4 : w2.heap[w.heap.size]? = some (.cells #[.int .u64 0, .slice none 0 0, .int .u32 0] 45 (0, 0)) := (hb2.block _ (by simp)).trans (heap_alloc_new w _)
  have hc0 := (blk_cell h4 0).trans rfl
  have hc1_ := (blk_cell h4 1).trans rfl
  have hc2 := (blk_cell h4 2).trans rfl
  have hf0 := blk_frozen h4 0
  have hf1 := blk_frozen h4 1
  have hf2 := blk_frozen h4 2
  have H4 := Aside0.mk h4
  clear hb2 h4
  go_wp2
  exact bodyPost_ret (v := .tuple #[.agg #[.int .u64 0, .slice none 0 0, .int .u32 0], .int .u16 1]) (by simp [results, Try.results27, go_sem, hc0, hc1_, hc2]) rfl ⟨rfl, by (repeat (first | exact HB.out | refine below_set ?_ (Nat.le_refl _)))⟩
/-- the state of mani.Of on its way: its variables' blocks, the table, the row of the sizes -/
structure OfSt (w W : World) (B4 B6 B7 B9 g : Nat) (a0 n : Int) (Av : Option Addr) (cv : Nat) (ss : List Int) : Prop where
  b4 : W.heap[B4]? = some (.cells #[.int .u64 0, .slice none 0 0, .int .u32 0] 45 (0, 0))
  b6 : W.heap[B6]? = some (.cells #[.pointer (some ⟨g, 0, none⟩)] 123 (0, 0))
  b7 : W.heap[B7]? = some (.cells #[.int .u32 n] 43 (0, 0))
  b9 : W.heap[B9]? = some (.cells #[.int .u64 a0, .slice Av ss.length cv, .int .u32 0] 45 (0, 0))
  tab : TabTo W g 256
  row : Kd.R (Kd.int .i64) 3 W w.heap.size (fun _ => True) (.slice Av ss.length cv) ss
  be : Below w.heap.size w W
  l4 : w.heap.size ≤ B4
  l7 : w.heap.size ≤ B7
  l9 : w.heap.size ≤ B9
  d : B7 ≠ B4 ∧ B7 ≠ B6 ∧ B7 ≠ B9 ∧ B7 ≠ g ∧ B9 ≠ B4
theorem OfSt.below {w W W1 : World} {B4 B6 B7 B9 g : Nat} {a0 n : Int} {Av : Option Addr} {cv : Nat} {ss : List Int} (h : OfSt w W B4 B6 B7 B9 g a0 n Av cv ss) (hb : Below W.heap.size W W1) : OfSt w W1 B4 B6 B7 B9 g a0 n Av cv ss where
  b4 := blk_below h.b4 hb
  b6 := blk_below h.b6 hb
  b7 := blk_below h.b7 hb
  b9 := blk_below h.b9 hb
  tab := h.tab.below hb h.tab.lt
  row := Kd.R_below h.row hb
  be := h.be.trans (hb.mono h.be.size)
  l4 := h.l4
  l7 := h.l7
  l9 := h.l9
  d := h.d
theorem OfSt.sum {w W : World} {B4 B6 B7 B9 g : Nat} {a0 n : Int} {Av : Option Addr} {cv : Nat} {ss : List Int} (h : OfSt w W B4 B6 B7 B9 g a0 n Av cv ss) (m : Int) : OfSt w (W.setCell ⟨B7, 0, none⟩ (.int .u32 m)) B4 B6 B7 B9 g a0 m Av cv ss where
  b4 := (Below.heap_setCell _ _ _ _ (fun e => h.d.1 e.symm)).trans h.b4
  b6 := (Below.heap_setCell _ _ _ _ (fun e => h.d.2.1 e.symm)).trans h.b6
  b7 := by simp [World.setCell, Array.getElem?_modify, h.b7]
  b9 := (Below.heap_setCell _ _ _ _ (fun e => h.d.2.2.1 e.symm)).trans h.b9
  tab := by
    obtain ⟨cs, hh, r⟩ := h.tab
    exact ⟨cs, (Below.heap_setCell _ _ _ _ (fun e => h.d.2.2.2.1 e.symm)).trans hh, r⟩
  row := Kd.R_mono (Kd.R_far (p := ⟨B7, 0, none⟩) (Kd.R_types h.row h.b7 (by decide)) (fun _ hk => hk.2) _) (fun _ _ => trivial)
  be := h.be.setCell (p := ⟨B7, 0, none⟩) h.l7 _
  l4 := h.l4
  l7 := h.l7
  l9 := h.l9
  d := h.d
set_option maxRecDepth 100000 in
set_option maxHeartbeats 4000000 in
theorem of_yes (k : Nat) (a0 : Int) (A1 : Option Addr) (c1 : Nat) (l1 : List (List Int)) (ss bs : List Int) (w : World) (hr1 : Kd.C (Kd.slice 38 (Kd.int .u64)) w A1 l1.length l1) (hc1 : l1.length ≤ c1) (h : arena_Right.f k l1 = some true) (hs : arena_Sizes.f k l1 = some ss) (hb : arena_Bytes.f l1 = some bs) :
    Calls Try.prog 27 #[.int .u64 a0, .slice A1 l1.length c1] w fun e w' => ∃ v1_ : Value, e = .returned (.tuple #[.agg #[.int .u64 a0, v1_, .int .u32 (moreI tabI (ss.foldl (fun n x => moreI tabI n (put2 x)) (moreI tabI 0 (put8 a0))) bs)], .int .u16 0]) ∧ Kd.R (Kd.int .i64) 3 w' w.heap.size (fun _ => True) v1_ ss ∧ Below w.heap.size w w' := by
  have HR := Aside0.mk hr1
  have HA := Aside0.mk h
  have HS := Aside0.mk hs
  have HBS := Aside0.mk hb
  clear hr1 h hs hb
  go_enter Try.func27, Try.ntmps27
  go_wp2_with fail
  refine (arena_Right.calls k A1 c1 l1 true _ (Kd.C_alloc HR.out _) hc1 HA.out).mono ?_
  rintro e w2 ⟨rfl, hb2⟩
  have HB := Aside0.mk (((Below.refl w.heap.size w).alloc (Nat.le_refl _) _).trans (hb2.mono (by simp)) : Below w.heap.size w w2)
  have H4 := Aside0.mk ((hb2.block _ (by simp)).trans (heap_alloc_new w _) : w2.heap[w.heap.size]? = some (.cells #[.int .u64 0, .slice none 0 0, .int .u32 0] 45 (0, 0)))
  clear hb2
  go_wp2_with fail
  refine (table_any w2).mono ?_
  rintro e w3 ⟨g, rfl, hg, hT, hb3⟩
  have HT := Aside0.mk hT
  have HG := Aside0.mk hg
  have HB3 := Aside0.mk (below_step HB.out hb3)
  have H43 := Aside0.mk (blk_below H4.out hb3)
  clear hT hb3 hg HB H4
  go_wp2_with fail
  refine (arena_Sizes.calls k A1 c1 l1 ss _ (Kd.C_alloc (Kd.C_alloc (Kd.C_below HR.out HB3.out) _) _) hc1 HS.out).mono ?_
  rintro e w4 ⟨vz, rfl, hRz, hb4⟩
  obtain ⟨Av, cv, ev⟩ := Kd.R_slice hRz
  subst ev
  have I1 : OfSt w (w4.alloc (.cells #[.int .u64 a0, .slice Av ss.length cv, .int .u32 0] 45)) w.heap.size w3.heap.size (w3.heap.size + 1) w4.heap.size g a0 0 Av cv ss := by
    have hlt := blk_lt H43.out
    have hgl := HT.out.lt
    have hz := hb4.size
    simp only [World.size_alloc] at hz
    have n1 := blk_new w3 (.cells #[.pointer (some ⟨g, 0, none⟩)] 123)
    have n2 := blk_new (w3.alloc (.cells #[.pointer (some ⟨g, 0, none⟩)] 123)) (.cells #[.int .u32 0] 43)
    simp only [World.size_alloc] at n2
    refine ⟨blk_alloc (blk_below (blk_alloc (blk_alloc H43.out _) _) hb4) _, blk_alloc (blk_below (blk_alloc n1 _) hb4) _, blk_alloc (blk_below n2 hb4) _, blk_new _ _, ?_, ?_, below_alloc (below_step (below_alloc (below_alloc HB3.out _) _) hb4) _, Nat.le_refl _, by omega, by omega, ?_⟩
    · exact (((HT.out.below ((Below.refl w3.heap.size w3).alloc (Nat.le_refl _) _) hgl).below ((Below.refl _ _).alloc (Nat.le_refl _) _) (by simp; omega)).below hb4 (by simp; omega)).below ((Below.refl _ _).alloc (Nat.le_refl _) _) (by omega)
    · exact Kd.R_below (Kd.R_lower hRz (by simp only [World.size_alloc]; omega)) ((Below.refl _ _).alloc (Nat.le_refl _) _)
    · refine ⟨by omega, by omega, by omega, ?_, by omega⟩
      have := HG.out
      omega
  have HI1 := Aside0.mk I1
  clear I1 hRz hb4 HS H43 HT HG HB3
  go_wp2_with fail
  refine (word_Put.calls 9 a0 8 (put8 a0) _ (put8_some a0).1).mono ?_
  rintro e w5 ⟨vp, rfl, hP, hb5⟩
  obtain ⟨Ap, cp, ep⟩ := Kd.R_slice hP
  subst ep
  have HI2 := Aside0.mk (HI1.out.below hb5)
  have HP := Aside0.mk (Kd.reads_of_C (d := (0 : Int)) (Kd.R_reads' hP).2.2 : ReadsInt w5 .u8 Ap (put8 a0).length (put8 a0))
  clear HI1 hP hb5
  generalize w3.heap.size + 1 = B7 at HI2 ⊢
  generalize w3.heap.size = B6 at HI2 ⊢
  generalize w4.heap.size = B9 at HI2 ⊢
  go_wp2_with fail
  refine (of_more B6 B7 g 0 Ap cp (put8 a0) w5 ((blk_cell HI2.out.b6 0).trans rfl) ((blk_cell HI2.out.b7 0).trans rfl) (blk_frozen HI2.out.b7 0) HI2.out.tab.is HP.out).mono ?_
  rintro e w6 ⟨⟨v6, rfl⟩, rfl⟩
  have HI3 := Aside0.mk (HI2.out.sum (moreI tabI 0 (put8 a0)))
  clear HI2 HP
  generalize w5.setCell ⟨B7, 0, none⟩ (.int .u32 (moreI tabI 0 (put8 a0))) = w6 at HI3 ⊢
  obtain ⟨S0, hS0⟩ : ∃ S0, S0 = moreI tabI 0 (put8 a0) := ⟨_, rfl⟩
  rw [← hS0] at HI3
  have HS0 := Aside0.mk hS0
  clear hS0
  have k9 : w6.cell? ⟨B9, 1, none⟩ = some (.slice Av ss.length cv) := (blk_cell HI3.out.b9 1).trans rfl
  have hsl : (ss.length : Int) ≤ 9223372036854775807 := by have := (Kd.reads_of_C (d := (0 : Int)) (Kd.R_reads' HI3.out.row).2.2).2.1; unfold maxLen at this; omega
  go_wp2_with fail
  clear k9
  go_loopg [29] ss.length (fun kq v29 w' => ∃ i : Nat, v29 = .int .i64 i ∧ Aside0 (i + kq = ss.length) ∧ Aside0 (OfSt w w' w.heap.size B6 B7 B9 g a0 ((ss.take i).foldl (fun n x => moreI tabI n (put2 x)) S0) Av cv ss))
  case atStart => exact ⟨0, rfl, ⟨by omega⟩, HI3⟩
  case round =>
    clear HI3
    obtain ⟨i, rfl, Hi, HI⟩ := hrel
    have hi := Hi.out
    cases gk with
    | zero =>
      obtain rfl : i = ss.length := by omega
      clear Hi hi
      have HI4 := HI
      clear HI
      rw [List.take_length] at HI4
      obtain ⟨S1, hS1⟩ : ∃ S1, S1 = ss.foldl (fun n x => moreI tabI n (put2 x)) S0 := ⟨_, rfl⟩
      rw [← hS1] at HI4
      have HS1 := Aside0.mk hS1
      clear hS1
      go_wp2_with fail
      refine (arena_Bytes.calls A1 c1 l1 bs _ (Kd.C_below HR.out HI4.out.be) hc1 HBS.out).mono ?_
      rintro e w7 ⟨vb, rfl, hB, hb7⟩
      obtain ⟨Ab, cb, eb⟩ := Kd.R_slice hB
      subst eb
      have HI5 := Aside0.mk (HI4.out.below hb7)
      have HP := Aside0.mk (Kd.reads_of_C (d := (0 : Int)) (Kd.R_reads' hB).2.2 : ReadsInt w7 .u8 Ab bs.length bs)
      clear HI4 hB hb7
      go_wp2_with fail
      refine (of_more B6 B7 g S1 Ab cb bs w7 ((blk_cell HI5.out.b6 0).trans rfl) ((blk_cell HI5.out.b7 0).trans rfl) (blk_frozen HI5.out.b7 0) HI5.out.tab.is HP.out).mono ?_
      rintro e w8 ⟨⟨v8, rfl⟩, rfl⟩
      have HI6 := Aside0.mk (HI5.out.sum (moreI tabI S1 bs))
      clear HI5 HP
      generalize w7.setCell ⟨B7, 0, none⟩ (.int .u32 (moreI tabI S1 bs)) = w8 at HI6 ⊢
      obtain ⟨S2, hS2⟩ : ∃ S2, S2 = moreI tabI S1 bs := ⟨_, rfl⟩
      rw [← hS2] at HI6
      have HS2 := Aside0.mk hS2
      clear hS2
      have k7 : w8.cell? ⟨B7, 0, none⟩ = some (.int .u32 S2) := (blk_cell HI6.out.b7 0).trans rfl
      have k90 : w8.cell? ⟨B9, 0, none⟩ = some (.int .u64 a0) := (blk_cell HI6.out.b9 0).trans rfl
      have k91 : w8.cell? ⟨B9, 1, none⟩ = some (.slice Av ss.length cv) := (blk_cell HI6.out.b9 1).trans rfl
      have k92 : w8.cell? ⟨B9, 2, none⟩ = some (.int .u32 0) := (blk_cell HI6.out.b9 2).trans rfl
      have f92 : w8.frozen? ⟨B9, 2, none⟩ = false := blk_frozen HI6.out.b9 2
      have k40 : w8.cell? ⟨w.heap.size, 0, none⟩ = some (.int .u64 0) := (blk_cell HI6.out.b4 0).trans rfl
      have k41 : w8.cell? ⟨w.heap.size, 1, none⟩ = some (.slice none 0 0) := (blk_cell HI6.out.b4 1).trans rfl
      have k42 : w8.cell? ⟨w.heap.size, 2, none⟩ = some (.int .u32 0) := (blk_cell HI6.out.b4 2).trans rfl
      have f40 : w8.frozen? ⟨w.heap.size, 0, none⟩ = false := blk_frozen HI6.out.b4 0
      have f41 : w8.frozen? ⟨w.heap.size, 1, none⟩ = false := blk_frozen HI6.out.b4 1
      have f42 : w8.frozen? ⟨w.heap.size, 2, none⟩ = false := blk_frozen HI6.out.b4 2
      have n94 : (w.heap.size = B9) = False := eq_false (fun e => HI6.out.d.2.2.2.2 e.symm)
      have n94' : (B9 = w.heap.size) = False := eq_false HI6.out.d.2.2.2.2
      go_wp2
      have hne : w.heap.size ≠ B9 := fun e => HI6.out.d.2.2.2.2 e.symm
      have r1 := Kd.R_far (p := ⟨B9, 2, none⟩) (Kd.R_types HI6.out.row HI6.out.b9 (by decide)) (fun _ hk => hk.2) (.int .u32 S2)
      have r2 := Kd.R_types r1 (blk_far HI6.out.b4 (p := ⟨B9, 2, none⟩) hne (.int .u32 S2)) (by decide)
      have far : ∀ (W : World) (j : Nat) (v : Value), Kd.R (Kd.int .i64) 3 W w.heap.size (fun k_ => k_ ≠ w.heap.size) (.slice Av ss.length cv) ss → Kd.R (Kd.int .i64) 3 (W.setCell ⟨w.heap.size, j, none⟩ v) w.heap.size (fun k_ => k_ ≠ w.heap.size) (.slice Av ss.length cv) ss := fun W j v h => Kd.R_far (p := ⟨w.heap.size, j, none⟩) h (fun _ hk => hk) v
      refine bodyPost_ret (v := .tuple #[.agg #[.int .u64 a0, .slice Av ss.length cv, .int .u32 S2], .int .u16 0]) (by simp [results, Try.results27, go_sem, k40, k41, k42, n94, n94']) rfl ⟨_, by rw [HS2.out, HS1.out, HS0.out], Kd.R_mono (far _ _ _ (far _ _ _ (far _ _ _ (Kd.R_mono r2 (fun _ hk => hk.2))))) (fun _ _ => trivial), ?_⟩
      exact below_set (below_set (below_set (below_set HI6.out.be HI6.out.l9) (Nat.le_refl _)) (Nat.le_refl _)) (Nat.le_refl _)
    | succ kk =>
      have hil : i < ss.length := by omega
      obtain ⟨ad, ead, hcx⟩ := Kd.at_int (Kd.R_reads' HI.out.row).2.2 (i : Int) (by omega) (by omega)
      rw [Int.toNat_natCast] at hcx
      obtain ⟨x, hx⟩ : ∃ x, rd ss (i : Int) = x := ⟨_, rfl⟩
      rw [hx] at hcx
      have HX := Aside0.mk (show ss.take (i + 1) = ss.take i ++ [x] by
        rw [List.take_succ_eq_append_getElem hil]
        unfold rd at hx
        rw [Int.toNat_natCast, List.getD_eq_getElem?_getD, List.getElem?_eq_getElem hil] at hx
        rw [← hx]; rfl)
      have hlt : (i : Int) < (ss.length : Int) := by omega
      obtain ⟨P, hP0⟩ : ∃ P, P = put2 x := ⟨_, rfl⟩
      have HP0 := Aside0.mk hP0
      clear hx hP0
      subst ead
      go_wp2_with fail
      refine (word_Put.calls 9 (IntKind.u64.wrap x) 2 P _ (by rw [HP0.out]; exact put2_some x)).mono ?_
      rintro e w7 ⟨vp, rfl, hP, hb7⟩
      obtain ⟨Ap, cp, ep⟩ := Kd.R_slice hP
      subst ep
      have HI2 := Aside0.mk (HI.out.below hb7)
      have HP := Aside0.mk (Kd.reads_of_C (d := (0 : Int)) (Kd.R_reads' hP).2.2 : ReadsInt w7 .u8 Ap P.length P)
      clear HI hP hb7 hcx
      go_wp2_with fail
      refine (of_more B6 B7 g _ Ap cp P w7 ((blk_cell HI2.out.b6 0).trans rfl) ((blk_cell HI2.out.b7 0).trans rfl) (blk_frozen HI2.out.b7 0) HI2.out.tab.is HP.out).mono ?_
      rintro e w8 ⟨⟨v8, rfl⟩, rfl⟩
      have HI6 := Aside0.mk (HI2.out.sum (moreI tabI ((ss.take i).foldl (fun n x => moreI tabI n (put2 x)) S0) P))
      clear HI2 HP
      generalize w7.setCell ⟨B7, 0, none⟩ (.int .u32 (moreI tabI ((ss.take i).foldl (fun n x => moreI tabI n (put2 x)) S0) P)) = w8 at HI6 ⊢
      rw [HP0.out] at HI6
      go_wp2
      go_roundg kk
      case measure => omega
      case rel => exact ⟨i + 1, by first | rfl | (simp; done) | go_num, ⟨by omega⟩, by rw [HX.out, List.foldl_append]; exact HI6⟩
theorem mani_Of.calls (k : Nat) (a0 : Int) (A1 : Option Addr) (c1 : Nat) (l1 : List (List Int)) (r0 : Int) (r1 : List Int) (r2 r3 : Int) (w : World) (hr1 : Kd.C (Kd.slice 38 (Kd.int .u64)) w A1 l1.length l1) (hc1 : l1.length ≤ c1) (h : mani_Of.f k a0 l1 = some (r0, r1, r2, r3)) :
    Calls Try.prog 27 #[.int .u64 a0, .slice A1 l1.length c1] w fun e w' => ∃ v1_ : Value, e = .returned (.tuple #[.agg #[.int .u64 r0, v1_, .int .u32 r2], .int .u16 r3]) ∧ Kd.R (Kd.int .i64) 3 w' w.heap.size (fun _ => True) v1_ r1 ∧ Below w.heap.size w w' := by
  unfold mani_Of.f at h
  obtain ⟨ok, hok, h⟩ := Option.bind_eq_some_iff.mp h
  cases ok with
  | false =>
    rw [if_neg (by simp)] at h
    simp only [Option.some.injEq, Prod.mk.injEq] at h
    obtain ⟨rfl, rfl, rfl, rfl⟩ := h
    exact (of_no k a0 A1 c1 l1 w hr1 hc1 hok).mono fun e w' ⟨he, hb⟩ => ⟨_, he, Kd.R_nil _ _ _ _ _, hb⟩
  | true =>
    rw [if_pos rfl] at h
    obtain ⟨ss, hss, h⟩ := Option.bind_eq_some_iff.mp h
    obtain ⟨bs, hbs, h⟩ := Option.bind_eq_some_iff.mp h
    simp only [Option.some.injEq, Prod.mk.injEq] at h
    obtain ⟨rfl, rfl, rfl, rfl⟩ := h
    exact of_yes k a0 A1 c1 l1 ss bs w hr1 hc1 hok hss hbs
end Go.Proofs.Ytliohoalackhiaa.N
