/- The document's store: Crash. -/
import Derived.Test.YtliohoalackhiaaPTKeepT
namespace Go.Proofs.Ytliohoalackhiaa.T
open Go.ChangeMaps hiding rd
open Go.RowKit Go.Maps Go.Proofs.YtliohoalackhiaaW.PrintWords Go.Proofs.YtliohoalackhiaaW.PrintLast Go.Proofs.YtliohoalackhiaaW.PrintMore Go.Proofs.Ytliohoalackhiaa.Num Go.Proofs.Ytliohoalackhiaa.CrcN
set_option linter.unusedVariables false
set_option linter.unusedSimpArgs false
theorem crashA_snoc (s : Step) : ∀ (ss : List Step) (ks : List Bool) (A : Hist × List Int), crashA A (ss ++ [s]) ks = if ks.getD ss.length false = true then app s (crashA A ss ks) else crashA A ss ks
  | [], [], A => rfl
  | [], true :: ks, A => by rw [List.nil_append, crashA, crashA_nil, crashA_nil]; rfl
  | [], false :: ks, A => by rw [List.nil_append, crashA, crashA_nil, crashA_nil]; rfl
  | t :: ss, [], A => by rw [crashA_none, crashA_none]; simp
  | t :: ss, true :: ks, A => by rw [List.cons_append, crashA, crashA, crashA_snoc s ss ks]; rfl
  | t :: ss, false :: ks, A => by rw [List.cons_append, crashA, crashA, crashA_snoc s ss ks]; rfl
theorem crashA_take (A : Hist × List Int) (steps : List Step) (ks : List Bool) {k : Nat} {s : Step} (h : steps.drop k = s :: steps.drop (k + 1)) (hk : k < steps.length) : crashA A (steps.take (k + 1)) ks = if ks.getD k false = true then app s (crashA A (steps.take k) ks) else crashA A (steps.take k) ks := by
  have e : steps.take (k + 1) = steps.take k ++ [s] := by
    have hs : steps[k] = s := by
      have := List.drop_eq_getElem_cons hk
      rw [this] at h
      exact (List.cons.inj h).1
    rw [List.take_succ_eq_append_getElem hk, hs]
  rw [e, crashA_snoc, List.length_take, Nat.min_eq_left (by omega)]
theorem crashA_over (A : Hist × List Int) (steps : List Step) (ks : List Bool) : ∀ (d k : Nat), k + d = steps.length → ks.length ≤ k → crashA A (steps.take k) ks = crashA A steps ks
  | 0, k, h, _ => by rw [List.take_of_length_le (by omega)]
  | d + 1, k, h, hk => by
    rw [← crashA_over A steps ks d (k + 1) (by omega) (by omega), crashA_take A steps ks (List.drop_eq_getElem_cons (by omega)) (by omega), if_neg (by rw [List.getD_eq_getElem?_getD, List.getElem?_eq_none hk]; simp)]
theorem RStep.seven {b : Nat} {w : World} {cs : List Value} {s : Step} (h : RStep b w cs s) : ∃ (j i : Int) (B : Option Addr) (n c : Nat) (x : Int) (V1 : Option Addr) (n1 c1 : Nat) (y : Int) (V3 : Option Addr) (n3 c3 : Nat), cs = [.int .i64 j, .int .i64 i, .slice B n c, .int .u64 x, .slice V1 n1 c1, .int .u32 y, .slice V3 n3 c3] := by
  cases s with
  | put i xs =>
    obtain ⟨B, c, rfl, _⟩ := h
    exact ⟨_, _, _, _, _, _, _, _, _, _, _, _, _, rfl⟩
  | save E =>
    obtain ⟨x, V1, c1, ss, y, V3, c3, kn, rfl, _⟩ := h
    exact ⟨_, _, _, _, _, _, _, _, _, _, _, _, _, rfl⟩
  | clear =>
    obtain rfl := h
    exact ⟨_, _, _, _, _, _, _, _, _, _, _, _, _, rfl⟩
set_option maxRecDepth 100000 in
set_option maxHeartbeats 8000000 in
theorem ref_crash (w : World) (b : Nat) (hb : b ≤ w.heap.size) (vs : List Value) (A1 A2 : Hist × List Int) (steps : List Step) (h : RT b w vs A1 A2 steps) (hst : steps.length < 1599400000000) (Ak : Option Addr) (ck : Nat) (ks : List Bool) (hks : Firm b w (fun W => Kd.C Kd.bool W Ak ks.length ks)) (hck : ks.length ≤ ck) :
    Calls Try.prog 117 #[.agg vs.toArray, .slice Ak ks.length ck] w fun e w' => ∃ vs' : List Value, e = .returned (.agg vs'.toArray) ∧ RT b w' vs' (crashA A1 steps ks) (crashA A1 steps ks) [] ∧ Below w.heap.size w w' := by
  obtain ⟨Ah, ch, Ac, cc, isb, x, V1, n1, c1, y, V3, n3, c3, Bh, ch2, Bc, cc2, isb2, x2, V12, n12, c12, y2, V32, n32, c32, L, n, cl, rows, rfl, h1, h2, h3, h4, h5, h6⟩ := h.shape
  subst h3
  have HLL : Aside0 (0 < rows.length → ∃ gL, L = some ⟨gL, 0, none⟩) := ⟨h4.2⟩
  have HRL : Aside0 (rows.length = steps.length) := ⟨h6.length⟩
  have H1 := Aside0.mk h1
  have H5 := Aside0.mk h5
  have H6 := Aside0.mk h6
  have HKS := Aside0.mk hks
  clear h h1 h2 h4 h5 h6 hks
  have hbz : Below w.heap.size w (((w.alloc (.cells #[.slice Ah 512 ch, .slice Ac 512 cc, .bool isb, .int .u64 x, .slice V1 n1 c1, .int .u32 y, .slice V3 n3 c3, .slice Bh 512 ch2, .slice Bc 512 cc2, .bool isb2, .int .u64 x2, .slice V12 n12 c12, .int .u32 y2, .slice V32 n32 c32, .slice L rows.length cl] 100)).alloc (.cells #[.slice none 0 0, .slice none 0 0, .bool false, .int .u64 0, .slice none 0 0, .int .u32 0, .slice none 0 0, .slice none 0 0, .slice none 0 0, .bool false, .int .u64 0, .slice none 0 0, .int .u32 0, .slice none 0 0, .slice none 0 0] 100)).alloc (.cells #[.slice Ah 512 ch, .slice Ac 512 cc, .bool isb, .int .u64 x, .slice V1 n1 c1, .int .u32 y, .slice V3 n3 c3] 97)) := below_alloc (below_alloc (below_alloc (Below.refl w.heap.size w) (.cells #[.slice Ah 512 ch, .slice Ac 512 cc, .bool isb, .int .u64 x, .slice V1 n1 c1, .int .u32 y, .slice V3 n3 c3, .slice Bh 512 ch2, .slice Bc 512 cc2, .bool isb2, .int .u64 x2, .slice V12 n12 c12, .int .u32 y2, .slice V32 n32 c32, .slice L rows.length cl] 100)) (.cells #[.slice none 0 0, .slice none 0 0, .bool false, .int .u64 0, .slice none 0 0, .int .u32 0, .slice none 0 0, .slice none 0 0, .slice none 0 0, .bool false, .int .u64 0, .slice none 0 0, .int .u32 0, .slice none 0 0, .slice none 0 0] 100)) (.cells #[.slice Ah 512 ch, .slice Ac 512 cc, .bool isb, .int .u64 x, .slice V1 n1 c1, .int .u32 y, .slice V3 n3 c3] 97)
  have hT := blk_alloc (blk_alloc (blk_new w (.cells #[.slice Ah 512 ch, .slice Ac 512 cc, .bool isb, .int .u64 x, .slice V1 n1 c1, .int .u32 y, .slice V3 n3 c3, .slice Bh 512 ch2, .slice Bc 512 cc2, .bool isb2, .int .u64 x2, .slice V12 n12 c12, .int .u32 y2, .slice V32 n32 c32, .slice L rows.length cl] 100)) (.cells #[.slice none 0 0, .slice none 0 0, .bool false, .int .u64 0, .slice none 0 0, .int .u32 0, .slice none 0 0, .slice none 0 0, .slice none 0 0, .bool false, .int .u64 0, .slice none 0 0, .int .u32 0, .slice none 0 0, .slice none 0 0] 100)) (.cells #[.slice Ah 512 ch, .slice Ac 512 cc, .bool isb, .int .u64 x, .slice V1 n1 c1, .int .u32 y, .slice V3 n3 c3] 97)
  have hR := blk_alloc (blk_new (w.alloc (.cells #[.slice Ah 512 ch, .slice Ac 512 cc, .bool isb, .int .u64 x, .slice V1 n1 c1, .int .u32 y, .slice V3 n3 c3, .slice Bh 512 ch2, .slice Bc 512 cc2, .bool isb2, .int .u64 x2, .slice V12 n12 c12, .int .u32 y2, .slice V32 n32 c32, .slice L rows.length cl] 100)) (.cells #[.slice none 0 0, .slice none 0 0, .bool false, .int .u64 0, .slice none 0 0, .int .u32 0, .slice none 0 0, .slice none 0 0, .slice none 0 0, .bool false, .int .u64 0, .slice none 0 0, .int .u32 0, .slice none 0 0, .slice none 0 0] 100)) (.cells #[.slice Ah 512 ch, .slice Ac 512 cc, .bool isb, .int .u64 x, .slice V1 n1 c1, .int .u32 y, .slice V3 n3 c3] 97)
  have hS := blk_new ((w.alloc (.cells #[.slice Ah 512 ch, .slice Ac 512 cc, .bool isb, .int .u64 x, .slice V1 n1 c1, .int .u32 y, .slice V3 n3 c3, .slice Bh 512 ch2, .slice Bc 512 cc2, .bool isb2, .int .u64 x2, .slice V12 n12 c12, .int .u32 y2, .slice V32 n32 c32, .slice L rows.length cl] 100)).alloc (.cells #[.slice none 0 0, .slice none 0 0, .bool false, .int .u64 0, .slice none 0 0, .int .u32 0, .slice none 0 0, .slice none 0 0, .slice none 0 0, .bool false, .int .u64 0, .slice none 0 0, .int .u32 0, .slice none 0 0, .slice none 0 0] 100)) (.cells #[.slice Ah 512 ch, .slice Ac 512 cc, .bool isb, .int .u64 x, .slice V1 n1 c1, .int .u32 y, .slice V3 n3 c3] 97)
  rw [World.size_alloc] at hR
  rw [World.size_alloc, World.size_alloc] at hS
  go_enter Try.func117, Try.ntmps117
  go_wp2_with fail
  generalize (((w.alloc (.cells #[.slice Ah 512 ch, .slice Ac 512 cc, .bool isb, .int .u64 x, .slice V1 n1 c1, .int .u32 y, .slice V3 n3 c3, .slice Bh 512 ch2, .slice Bc 512 cc2, .bool isb2, .int .u64 x2, .slice V12 n12 c12, .int .u32 y2, .slice V32 n32 c32, .slice L rows.length cl] 100)).alloc (.cells #[.slice none 0 0, .slice none 0 0, .bool false, .int .u64 0, .slice none 0 0, .int .u32 0, .slice none 0 0, .slice none 0 0, .slice none 0 0, .bool false, .int .u64 0, .slice none 0 0, .int .u32 0, .slice none 0 0, .slice none 0 0] 100)).alloc (.cells #[.slice Ah 512 ch, .slice Ac 512 cc, .bool isb, .int .u64 x, .slice V1 n1 c1, .int .u32 y, .slice V3 n3 c3] 97)) = wz at hbz hT hR hS ⊢
  have HT := Aside0.mk hT
  have HR := Aside0.mk hR
  have HS := Aside0.mk hS
  have HBZ := Aside0.mk hbz
  have HL0 := Aside0.mk (Leaves.of_below hbz hb)
  clear hT hR hS hbz
  go_loopw [6] (fun iv wr => ∃ (k : Nat) (Eh : Option Addr) (eh : Nat) (Ec : Option Addr) (ec : Nat) (isb3 : Bool) (x3 : Int) (U1 : Option Addr) (m1 f1 : Nat) (y3 : Int) (U3 : Option Addr) (m3 f3 : Nat), k ≤ steps.length ∧ k ≤ ks.length ∧ iv = .int .i64 k ∧
      Aside0 (wr.heap[w.heap.size]? = some (.cells #[.slice Ah 512 ch, .slice Ac 512 cc, .bool isb, .int .u64 x, .slice V1 n1 c1, .int .u32 y, .slice V3 n3 c3, .slice Bh 512 ch2, .slice Bc 512 cc2, .bool isb2, .int .u64 x2, .slice V12 n12 c12, .int .u32 y2, .slice V32 n32 c32, .slice L rows.length cl] 100)) ∧ Aside0 (wr.heap[w.heap.size + 1]? = some (.cells #[.slice none 0 0, .slice none 0 0, .bool false, .int .u64 0, .slice none 0 0, .int .u32 0, .slice none 0 0, .slice none 0 0, .slice none 0 0, .bool false, .int .u64 0, .slice none 0 0, .int .u32 0, .slice none 0 0, .slice none 0 0] 100)) ∧ Aside0 (wr.heap[w.heap.size + 1 + 1]? = some (.cells #[.slice Eh 512 eh, .slice Ec 512 ec, .bool isb3, .int .u64 x3, .slice U1 m1 f1, .int .u32 y3, .slice U3 m3 f3] 97)) ∧ Aside0 (RState b wr [.slice Eh 512 eh, .slice Ec 512 ec, .bool isb3, .int .u64 x3, .slice U1 m1 f1, .int .u32 y3, .slice U3 m3 f3] (crashA A1 (steps.take k) ks)) ∧ Aside0 (Below w.heap.size w wr) ∧ Aside0 (Leaves b w wr))
    (fun iv _ => steps.length - (intOf iv).toNat)
  case atStart =>
    exact ⟨0, Ah, ch, Ac, cc, isb, x, V1, n1, c1, y, V3, n3, c3, Nat.zero_le _, Nat.zero_le _, rfl, HT, HR, HS, ⟨by rw [List.take_zero, crashA_nil]; exact H1.out.step HL0.out⟩, HBZ, HL0⟩
  case round =>
    clear HT HR HS HBZ HL0
    obtain ⟨k, Eh, eh, Ec, ec, isb3, x3, U1, m1, f1, y3, U3, m3, f3, hk1, hk2, rfl, HT, HR, HS, HST, HB, HL⟩ := hrel
    have t14 : wr.cell? ⟨w.heap.size, 14, none⟩ = some (.slice L rows.length cl) := (blk_cell HT.out 14).trans rfl
    by_cases hlt : k < steps.length
    · have hlt1 : (k : Int) < (rows.length : Int) := by have := HRL.out; omega
      by_cases hlk : k < ks.length
      · have hlk1 : (k : Int) < (ks.length : Int) := by omega
        obtain ⟨adk, rfl, hx⟩ := Kd.at_bool (HKS.out.step HL.out).now (k : Int) (by omega) hlk1
        rw [show rdOf false ks (k : Int) = ks.getD k false from by unfold rdOf; rw [Int.toNat_natCast], Int.toNat_natCast] at hx
        have htake := fun s hs => crashA_take A1 steps ks (k := k) (s := s) hs hlt
        cases hkk : ks.getD k false with
        | false =>
          rw [hkk] at hx htake
          go_wp2_with fail
          go_roundw
          case measure => simp [intOf]; omega
          case rel => exact ⟨k + 1, Eh, eh, Ec, ec, isb3, x3, U1, m1, f1, y3, U3, m3, f3, by omega, by omega, by go_num, HT, HR, HS, ⟨by rw [htake _ (List.drop_eq_getElem_cons hlt), if_neg (by simp)]; exact HST.out⟩, HB, HL⟩
        | true =>
          rw [hkk] at hx htake
          obtain ⟨cs, s, e1, e2, hrs⟩ := all2_at H6.out hlt
          have hs7 := hrs.seven
          obtain ⟨sj, si, sB, sn, sc, sx, sV1, sn1, sc1, sy, sV3, sn3, sc3, rfl⟩ := hs7
          have hcr := (H5.out.step HL.out).now.2.2 (by have := HRL.out; omega)
          obtain ⟨adl, rfl, hcr⟩ := hcr
          obtain ⟨gL, e⟩ := HLL.out (by have := HRL.out; omega)
          cases e
          obtain ⟨cs', hl', hkc, hcells⟩ := hcr k _ e1
          obtain rfl : cs' = _ := hkc.1
          have hat : ∀ j u, [(Value.int .i64 sj), .int .i64 si, .slice sB sn sc, .int .u64 sx, .slice sV1 sn1 sc1, .int .u32 sy, .slice sV3 sn3 sc3][j]? = some u → wr.cell? ⟨gL, k * 7 + j, none⟩ = some u := fun j u hj => by
            have := hcells j u hj
            rw [add_at, Nat.zero_add] at this
            exact this
          have c0_ := hat 0 _ rfl
          have c1_ := hat 1 _ rfl
          have c2_ := hat 2 _ rfl
          have c3_ := hat 3 _ rfl
          have c4_ := hat 4 _ rfl
          have c5_ := hat 5 _ rfl
          have c6_ := hat 6 _ rfl
          clear hcells hcr hkc hl' hat
          have HDN := Aside0.mk (ref_done wr.drew b (Nat.le_trans hb HB.out.size) [.slice Eh 512 eh, .slice Ec 512 ec, .bool isb3, .int .u64 x3, .slice U1 m1 f1, .int .u32 y3, .slice U3 m3 f3] _ (HST.out.step (Leaves.of_below (below_drew1 (Below.refl wr.heap.size wr)) (Nat.le_trans hb HB.out.size))) [.int .i64 sj, .int .i64 si, .slice sB sn sc, .int .u64 sx, .slice sV1 sn1 sc1, .int .u32 sy, .slice sV3 sn3 sc3] s (hrs.step (HL.out.trans (Leaves.of_below (below_drew1 (Below.refl wr.heap.size wr)) (Nat.le_trans hb HB.out.size)))))
          clear hrs
          obtain ⟨s0_, s1_, s2_, s3_, s4_, s5_, s6_⟩ := cells7 HS.out
          go_wp2_with fail
          refine start_ (n := 8) (S := fun w' => w'.cell? ⟨w.heap.size + 1 + 1, 0, none⟩ = some (.slice Eh 512 eh) ∧ w'.cell? ⟨w.heap.size + 1 + 1, 1, none⟩ = some (.slice Ec 512 ec) ∧ w'.cell? ⟨w.heap.size + 1 + 1, 2, none⟩ = some (.bool isb3) ∧ w'.cell? ⟨w.heap.size + 1 + 1, 3, none⟩ = some (.int .u64 x3) ∧ w'.cell? ⟨w.heap.size + 1 + 1, 4, none⟩ = some (.slice U1 m1 f1) ∧ w'.cell? ⟨w.heap.size + 1 + 1, 5, none⟩ = some (.int .u32 y3) ∧ w'.cell? ⟨w.heap.size + 1 + 1, 6, none⟩ = some (.slice U3 m3 f3) ∧ w'.cell? ⟨w.heap.size, 14, none⟩ = some (.slice (some ⟨gL, 0, none⟩) rows.length cl) ∧ w'.cell? ⟨gL, k * 7, none⟩ = some (.int .i64 sj) ∧ w'.cell? ⟨gL, k * 7 + 1, none⟩ = some (.int .i64 si) ∧ w'.cell? ⟨gL, k * 7 + 2, none⟩ = some (.slice sB sn sc) ∧ w'.cell? ⟨gL, k * 7 + 3, none⟩ = some (.int .u64 sx) ∧ w'.cell? ⟨gL, k * 7 + 4, none⟩ = some (.slice sV1 sn1 sc1) ∧ w'.cell? ⟨gL, k * 7 + 5, none⟩ = some (.int .u32 sy) ∧ w'.cell? ⟨gL, k * 7 + 6, none⟩ = some (.slice sV3 sn3 sc3)) (ds := [7]) #[false, false, false, false, false, false, false, false] (by kernel_rfl) rfl rfl ⟨s0_, s1_, s2_, s3_, s4_, s5_, s6_, t14, c0_, c1_, c2_, c3_, c4_, c5_, c6_⟩ (fun hHeld => ?_)
          refine pure_ (i := 1) (N := some 27) (v := ?_) (a' := ?_) #[false, true, false, false, false, false, false, false] rfl rfl (by kernel_rfl) (fun _ _ _ h => h) (Or.inl ⟨by rfl, ?_⟩) ?_ ?_; rotate_left; (intro w'; go_simp; with_reducible rfl); rotate_left; (simp only [Act.put, List.setIfInBounds_toArray, List.set_cons_zero, List.set_cons_succ, i64_w, i32_w]; rfl)
          refine pure_ (i := 3) (N := some 29) (v := ?_) (a' := ?_) #[false, true, false, true, false, false, false, false] rfl rfl (by kernel_rfl) (fun _ _ _ h => h) (Or.inl ⟨by rfl, ?_⟩) ?_ ?_; rotate_left; (intro w'; go_simp; with_reducible rfl); rotate_left; (simp only [Act.put, List.setIfInBounds_toArray, List.set_cons_zero, List.set_cons_succ, i64_w, i32_w]; rfl)
          refine take_ (i := 0) (N := some 26) (v := ?_) (a' := ?_) #[true, true, false, true, false, false, false, false] rfl rfl (by kernel_rfl) (fun _ _ _ h => h) (Or.inl ⟨by rfl, ?_⟩) hHeld ?_ ?_; rotate_left; (rintro w' ⟨s0, s1, s2, s3, s4, s5, s6, s7, s8, s9, s10, s11, s12, s13, s14⟩; go_simp; with_reducible rfl); rotate_left; (simp only [Act.put, List.setIfInBounds_toArray, List.set_cons_zero, List.set_cons_succ, i64_w, i32_w]; rfl)
          refine take_ (i := 2) (N := some 28) (v := ?_) (a' := ?_) #[true, true, true, true, false, false, false, false] rfl rfl (by kernel_rfl) (fun _ _ _ h => h) (Or.inl ⟨by rfl, ?_⟩) hHeld ?_ ?_; rotate_left; (rintro w' ⟨s0, s1, s2, s3, s4, s5, s6, s7, s8, s9, s10, s11, s12, s13, s14⟩; go_simp; with_reducible rfl); rotate_left; (simp only [Act.put, List.setIfInBounds_toArray, List.set_cons_zero, List.set_cons_succ, i64_w, i32_w]; rfl)
          refine pure_ (i := 4) (N := some 30) (v := ?_) (a' := ?_) #[true, true, true, true, true, false, false, false] rfl rfl (by kernel_rfl) (fun _ _ _ h => h) (Or.inl ⟨by rfl, ?_⟩) ?_ ?_; rotate_left; (intro w'; go_simp; with_reducible rfl); rotate_left; (simp only [Act.put, List.setIfInBounds_toArray, List.set_cons_zero, List.set_cons_succ, i64_w, i32_w]; rfl)
          refine take_ (i := 5) (N := some 31) (v := ?_) (a' := ?_) #[true, true, true, true, true, true, false, false] rfl rfl (by kernel_rfl) (fun _ _ _ h => h) (Or.inl ⟨by rfl, ?_⟩) hHeld ?_ ?_; rotate_left; (rintro w' ⟨s0, s1, s2, s3, s4, s5, s6, s7, s8, s9, s10, s11, s12, s13, s14⟩; go_simp; with_reducible rfl); rotate_left; (simp only [Act.put, List.setIfInBounds_toArray, List.set_cons_zero, List.set_cons_succ, i64_w, i32_w]; rfl)
          refine one_ (i := 6) (N := some 32) #[true, true, true, true, true, true, true, false] rfl rfl (by kernel_rfl) (by decide) (fun K hK => ?_)
          refine goes_ Try.func146 (by kernel_rfl) rfl #[.agg #[.slice Eh 512 eh, .slice Ec 512 ec, .bool isb3, .int .u64 x3, .slice U1 m1 f1, .int .u32 y3, .slice U3 m3 f3], .agg #[.int .i64 sj, .int .i64 si, .slice sB sn sc, .int .u64 sx, .slice sV1 sn1 sc1, .int .u32 sy, .slice sV3 sn3 sc3]] (by rfl) rfl rfl (by first | (simp only [List.map_toArray, List.map_cons, List.map_nil]; done) | (simp only [List.map_toArray, List.map_cons, List.map_nil]; rfl)) ?_
          with_reducible refine (HDN.out).mono ?_
          rintro e w2 ⟨vs', rfl, hst', hb2⟩
          refine ⟨_, rfl, ?_⟩
          obtain ⟨Gh, gh, Gc, gc, isb4, x4, Y1, j1, l1, y4, Y3, j3, l3, rfl⟩ := hst'.shape
          have HNS := Aside0.mk hst'
          have HBN := Aside0.mk (below_step (below_drew1 (Below.refl wr.heap.size wr)) hb2)
          have hsn := blk_below HS.out HBN.out
          obtain ⟨n0_, n1_, n2_, n3_, n4_, n5_, n6_⟩ := cells7 hsn
          obtain ⟨nf0_, nf1_, nf2_, nf3_, nf4_, nf5_, nf6_⟩ := frozen7 hsn
          have HSN := Aside0.mk hsn
          clear hst' hb2 hsn HDN
          refine hK.out _ _ ⟨((HBN.out.cell (World.block_lt_of_cell? _ _ s0_)).trans s0_), ((HBN.out.cell (World.block_lt_of_cell? _ _ s1_)).trans s1_), ((HBN.out.cell (World.block_lt_of_cell? _ _ s2_)).trans s2_), ((HBN.out.cell (World.block_lt_of_cell? _ _ s3_)).trans s3_), ((HBN.out.cell (World.block_lt_of_cell? _ _ s4_)).trans s4_), ((HBN.out.cell (World.block_lt_of_cell? _ _ s5_)).trans s5_), ((HBN.out.cell (World.block_lt_of_cell? _ _ s6_)).trans s6_), ((HBN.out.cell (World.block_lt_of_cell? _ _ t14)).trans t14), ((HBN.out.cell (World.block_lt_of_cell? _ _ c0_)).trans c0_), ((HBN.out.cell (World.block_lt_of_cell? _ _ c1_)).trans c1_), ((HBN.out.cell (World.block_lt_of_cell? _ _ c2_)).trans c2_), ((HBN.out.cell (World.block_lt_of_cell? _ _ c3_)).trans c3_), ((HBN.out.cell (World.block_lt_of_cell? _ _ c4_)).trans c4_), ((HBN.out.cell (World.block_lt_of_cell? _ _ c5_)).trans c5_), ((HBN.out.cell (World.block_lt_of_cell? _ _ c6_)).trans c6_)⟩ (fun hHeld => ?_)
          clear hK K
          refine norm_ (a' := ?_) ?_ ?_; rotate_left; (show Act.put _ (some 32) _ = _; simp only [Act.put, List.setIfInBounds_toArray, List.set_cons_zero, List.set_cons_succ, i64_w, i32_w]; rfl)
          refine last_ (i := 7) (N := none) #[true, true, true, true, true, true, true, true] rfl rfl (by kernel_rfl) (by decide) (fun K hK => ?_)
          refine skip_ (w1 := ?_) (by rfl) rfl ?_ ?_
          rotate_left
          · go_simp
            rfl
          refine hK.out _ _ ?_
          clear hK K
          refine done_ (by kernel_rfl) ?_
          clear s0_ c0_ s1_ c1_ s2_ c2_ s3_ c3_ s4_ c4_ s5_ c5_ s6_ c6_ n0_ nf0_ n1_ nf1_ n2_ nf2_ n3_ nf3_ n4_ nf4_ n5_ nf5_ n6_ nf6_ t14
          have hs := setAll_spec HSN.out [.slice Gh 512 gh, .slice Gc 512 gc, .bool isb4, .int .u64 x4, .slice Y1 j1 l1, .int .u32 y4, .slice Y3 j3 l3] rfl
          rw [setAll7]
          generalize setAll (w2) (w.heap.size + 1 + 1) 0 [.slice Gh 512 gh, .slice Gc 512 gc, .bool isb4, .int .u64 x4, .slice Y1 j1 l1, .int .u32 y4, .slice Y3 j3 l3] = WZ at hs ⊢
          have hLZ := (Leaves.of_below HBN.out (Nat.le_trans hb HB.out.size)).trans (leaves_all HSN.out (.inr rfl) (by omega) hs.2.1)
          have hLZ2 : Leaves b w2 WZ := leaves_all HSN.out (.inr rfl) (by omega) hs.2.1
          have HTn := Aside0.mk ((hs.2.1 w.heap.size (by omega)).trans (blk_below HT.out HBN.out))
          have HRn := Aside0.mk ((hs.2.1 (w.heap.size + 1) (by omega)).trans (blk_below HR.out HBN.out))
          have HSn := Aside0.mk hs.1
          have HBn := Aside0.mk (hs.2.2 w.heap.size w (by omega) (below_step HB.out HBN.out))
          have HLn := Aside0.mk (HL.out.trans hLZ)
          have HSTn : Aside0 (RState b WZ [.slice Gh 512 gh, .slice Gc 512 gc, .bool isb4, .int .u64 x4, .slice Y1 j1 l1, .int .u32 y4, .slice Y3 j3 l3] (crashA A1 (steps.take (k + 1)) ks)) := ⟨by have e := htake s e2; rw [e]; simp only [if_true]; exact HNS.out.step hLZ2⟩
          clear hs hLZ hLZ2
          go_wp2_with fail
          go_roundw
          case measure => simp [intOf]; omega
          case rel => exact ⟨k + 1, _, _, _, _, _, _, _, _, _, _, _, _, _, by omega, by omega, by go_num, HTn, HRn, HSn, HSTn, HBn, HLn⟩
      · have hlk1 : ¬ (k : Int) < (ks.length : Int) := by omega
        have hfin : crashA A1 (steps.take k) ks = crashA A1 steps ks := crashA_over A1 steps ks (steps.length - k) k (by omega) (by omega)
        rw [hfin] at HST
        clear hfin
        obtain ⟨s0_, s1_, s2_, s3_, s4_, s5_, s6_⟩ := cells7 HS.out
        obtain ⟨r0_, r1_, r2_, r3_, r4_, r5_, r6_, r7_, r8_, r9_, r10_, r11_, r12_, r13_, r14_⟩ := cells15 HR.out
        obtain ⟨rf0_, rf1_, rf2_, rf3_, rf4_, rf5_, rf6_, rf7_, rf8_, rf9_, rf10_, rf11_, rf12_, rf13_, rf14_⟩ := frozen15 HR.out
        go_wp2_with fail
        clear s0_ s1_ s2_ s3_ s4_ s5_ s6_ r0_ rf0_ r1_ rf1_ r2_ rf2_ r3_ rf3_ r4_ rf4_ r5_ rf5_ r6_ rf6_ r7_ rf7_ r8_ rf8_ r9_ rf9_ r10_ rf10_ r11_ rf11_ r12_ rf12_ r13_ rf13_ r14_ rf14_
        have hs := setAll_spec HR.out [.slice Eh 512 eh, .slice Ec 512 ec, .bool isb3, .int .u64 x3, .slice U1 m1 f1, .int .u32 y3, .slice U3 m3 f3, .slice Eh 512 eh, .slice Ec 512 ec, .bool isb3, .int .u64 x3, .slice U1 m1 f1, .int .u32 y3, .slice U3 m3 f3, .slice none 0 0] rfl
        rw [setAll15]
        generalize setAll (wr) (w.heap.size + 1) 0 [.slice Eh 512 eh, .slice Ec 512 ec, .bool isb3, .int .u64 x3, .slice U1 m1 f1, .int .u32 y3, .slice U3 m3 f3, .slice Eh 512 eh, .slice Ec 512 ec, .bool isb3, .int .u64 x3, .slice U1 m1 f1, .int .u32 y3, .slice U3 m3 f3, .slice none 0 0] = WZ at hs ⊢
        have hLZ : Leaves b wr WZ := leaves_all HR.out (.inl rfl) (by omega) hs.2.1
        have hbl : Below w.heap.size w WZ := hs.2.2 _ _ (by omega) HB.out
        have hz := hs.1
        obtain ⟨q0, q1, q2, q3, q4, q5, q6, q7, q8, q9, q10, q11, q12, q13, q14⟩ := cells15 hz
        refine bodyPost_ret (v := .agg #[.slice Eh 512 eh, .slice Ec 512 ec, .bool isb3, .int .u64 x3, .slice U1 m1 f1, .int .u32 y3, .slice U3 m3 f3, .slice Eh 512 eh, .slice Ec 512 ec, .bool isb3, .int .u64 x3, .slice U1 m1 f1, .int .u32 y3, .slice U3 m3 f3, .slice none 0 0]) (by simp [results, Try.results117, go_sem, q0, q1, q2, q3, q4, q5, q6, q7, q8, q9, q10, q11, q12, q13, q14]) rfl ?_
        have hq := HST.out.step hLZ
        exact ⟨_, rfl, rt_nil hq hq, hbl⟩
    · have hlt1 : ¬ (k : Int) < (rows.length : Int) := by have := HRL.out; omega
      have hfin : crashA A1 (steps.take k) ks = crashA A1 steps ks := by rw [List.take_of_length_le (by omega)]
      rw [hfin] at HST
      clear hfin
      obtain ⟨s0_, s1_, s2_, s3_, s4_, s5_, s6_⟩ := cells7 HS.out
      obtain ⟨r0_, r1_, r2_, r3_, r4_, r5_, r6_, r7_, r8_, r9_, r10_, r11_, r12_, r13_, r14_⟩ := cells15 HR.out
      obtain ⟨rf0_, rf1_, rf2_, rf3_, rf4_, rf5_, rf6_, rf7_, rf8_, rf9_, rf10_, rf11_, rf12_, rf13_, rf14_⟩ := frozen15 HR.out
      go_wp2_with fail
      clear s0_ s1_ s2_ s3_ s4_ s5_ s6_ r0_ rf0_ r1_ rf1_ r2_ rf2_ r3_ rf3_ r4_ rf4_ r5_ rf5_ r6_ rf6_ r7_ rf7_ r8_ rf8_ r9_ rf9_ r10_ rf10_ r11_ rf11_ r12_ rf12_ r13_ rf13_ r14_ rf14_
      have hs := setAll_spec HR.out [.slice Eh 512 eh, .slice Ec 512 ec, .bool isb3, .int .u64 x3, .slice U1 m1 f1, .int .u32 y3, .slice U3 m3 f3, .slice Eh 512 eh, .slice Ec 512 ec, .bool isb3, .int .u64 x3, .slice U1 m1 f1, .int .u32 y3, .slice U3 m3 f3, .slice none 0 0] rfl
      rw [setAll15]
      generalize setAll (wr) (w.heap.size + 1) 0 [.slice Eh 512 eh, .slice Ec 512 ec, .bool isb3, .int .u64 x3, .slice U1 m1 f1, .int .u32 y3, .slice U3 m3 f3, .slice Eh 512 eh, .slice Ec 512 ec, .bool isb3, .int .u64 x3, .slice U1 m1 f1, .int .u32 y3, .slice U3 m3 f3, .slice none 0 0] = WZ at hs ⊢
      have hLZ : Leaves b wr WZ := leaves_all HR.out (.inl rfl) (by omega) hs.2.1
      have hbl : Below w.heap.size w WZ := hs.2.2 _ _ (by omega) HB.out
      have hz := hs.1
      obtain ⟨q0, q1, q2, q3, q4, q5, q6, q7, q8, q9, q10, q11, q12, q13, q14⟩ := cells15 hz
      refine bodyPost_ret (v := .agg #[.slice Eh 512 eh, .slice Ec 512 ec, .bool isb3, .int .u64 x3, .slice U1 m1 f1, .int .u32 y3, .slice U3 m3 f3, .slice Eh 512 eh, .slice Ec 512 ec, .bool isb3, .int .u64 x3, .slice U1 m1 f1, .int .u32 y3, .slice U3 m3 f3, .slice none 0 0]) (by simp [results, Try.results117, go_sem, q0, q1, q2, q3, q4, q5, q6, q7, q8, q9, q10, q11, q12, q13, q14]) rfl ?_
      have hq := HST.out.step hLZ
      exact ⟨_, rfl, rt_nil hq hq, hbl⟩
end Go.Proofs.Ytliohoalackhiaa.T
