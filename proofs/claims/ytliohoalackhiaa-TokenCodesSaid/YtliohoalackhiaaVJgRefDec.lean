/- The document's Decode of a token: what it computes, of whatever bytes, in whatever memory; its bits are a cut of what was handed in. -/
import Derived.Test.YtliohoalackhiaaVJgDecode
import Derived.Test.YtliohoalackhiaaVJx18
import Derived.Test.YtliohoalackhiaaVJx20
import Derived.Test.YtliohoalackhiaaVJx21
namespace Go.Proofs.Ytliohoalackhiaa.J
open Go.RowKit Go.Shelf Go.Proofs.YtliohoalackhiaaW.PrintWords Go.Proofs.YtliohoalackhiaaW.PrintLast Go.Proofs.YtliohoalackhiaaW.PrintMore
set_option linter.unusedVariables false
set_option linter.unusedSimpArgs false
attribute [local go_sem] Oper.semAt_some
/-- from lo on, below hi -/
def midD (l : List Int) (lo hi : Nat) : List Int := (l.take hi).drop lo
/-- a cut at two numbers -/
theorem cutD_at (A : Option Addr) (c : Nat) (l : List Int) (lo hi : Nat) (h1 : lo ≤ hi) (h2 : hi ≤ l.length) (hc : l.length ≤ c) :
    ∃ A' : Option Addr, (∀ W : World, (Instr.slice 22 (.slice A l.length c) (some (.int .i64 (lo : Int))) (some (.int .i64 (hi : Int))) none).run Try.prog W = .ok (.slice A' (midD l lo hi).length (c - lo)) W) ∧
      (∀ w : World, Kd.C (Kd.int .u8) w A l.length l → Kd.C (Kd.int .u8) w A' (midD l lo hi).length (midD l lo hi)) ∧ (midD l lo hi).length ≤ c - lo := by
  obtain ⟨i0, hi0, hz0, hz1, hz2⟩ := info_parts info5
  obtain ⟨A', g1, g2, g3⟩ := print_mid_int (P := Try.prog) (k := .u8) 22 5 Try.underlying22 hi0 hz1 A c l (lo : Int) (hi : Int) (by omega) (by omega) (by omega) hc
  exact ⟨A', g1, fun w h => Kd.C_of_reads (g2 w (Kd.reads_of_C (d := (0 : Int)) h)), g3⟩
/-- a cut of the first ones -/
theorem cutD_to (A : Option Addr) (c : Nat) (l : List Int) (hi : Nat) (h2 : hi ≤ l.length) (hc : l.length ≤ c) :
    (∀ W : World, (Instr.slice 22 (.slice A l.length c) none (some (.int .i64 (hi : Int))) none).run Try.prog W = .ok (.slice A (l.take hi).length c) W) ∧
      (∀ w : World, Kd.C (Kd.int .u8) w A l.length l → Kd.C (Kd.int .u8) w A (l.take hi).length (l.take hi)) ∧ (l.take hi).length ≤ c := by
  obtain ⟨i0, hi0, hz0, hz1, hz2⟩ := info_parts info5
  obtain ⟨g1, g2, g3⟩ := print_take_int (P := Try.prog) (k := .u8) 22 5 Try.underlying22 hi0 hz1 A c l (hi : Int) (by omega) (by omega) hc
  exact ⟨g1, fun w h => Kd.C_of_reads (g2 w (Kd.reads_of_C (d := (0 : Int)) h)), g3⟩
/-- a block of four cells, opened -/
theorem openD {W : World} {g : Nat} {t : TypeId} {a b c d : Value} (h : W.heap[g]? = some (.cells #[a, b, c, d] t (0, 0))) :
    (W.cell? ⟨g, 0, none⟩ = some a ∧ W.cell? ⟨g, 1, none⟩ = some b ∧ W.cell? ⟨g, 2, none⟩ = some c ∧ W.cell? ⟨g, 3, none⟩ = some d) ∧
      W.frozen? ⟨g, 0, none⟩ = false ∧ W.frozen? ⟨g, 1, none⟩ = false ∧ W.frozen? ⟨g, 2, none⟩ = false ∧ W.frozen? ⟨g, 3, none⟩ = false :=
  ⟨⟨(blk_cell h 0).trans rfl, (blk_cell h 1).trans rfl, (blk_cell h 2).trans rfl, (blk_cell h 3).trans rfl⟩, blk_frozen h 0, blk_frozen h 1, blk_frozen h 2, blk_frozen h 3⟩
set_option maxRecDepth 100000 in
set_option maxHeartbeats 2000000 in
theorem rdec_short (A0 : Option Addr) (c0 : Nat) (l0 : List Int) (w : World) (h17 : (l0.length : Int) < 17) :
    Calls Try.prog 101 #[.slice A0 l0.length c0] w fun e w' => e = .returned (.tuple #[.agg #[.int .u64 0, .slice none 0 0, .int .u32 0, .slice none 0 0], .int .i64 10]) ∧ Below w.heap.size w w' := by
  have h1 : decide ((l0.length : Int) < 17) = true := decide_eq_true h17
  clear h17
  go_enter Try.func101, Try.ntmps101
  go_wp2
  exact bodyPost_ret (v := .tuple #[.agg #[.int .u64 0, .slice none 0 0, .int .u32 0, .slice none 0 0], .int .i64 10]) (by simp [results, Try.results101, go_sem]) rfl ⟨rfl, (Below.refl _ _).alloc (Nat.le_refl _) _⟩
set_option maxRecDepth 100000 in
set_option maxHeartbeats 2000000 in
theorem rdec_sum (kk : Nat) (A0 : Option Addr) (c0 : Nat) (l0 : List Int) (w : World) (h17 : ¬ (l0.length : Int) < 17) (hr0 : Kd.C (Kd.int .u8) w A0 l0.length l0) (hc0 : l0.length ≤ c0) (h : scullerref02_Right.f kk l0 = some false) :
    Calls Try.prog 101 #[.slice A0 l0.length c0] w fun e w' => e = .returned (.tuple #[.agg #[.int .u64 0, .slice none 0 0, .int .u32 0, .slice none 0 0], .int .i64 12]) ∧ Below w.heap.size w w' := by
  have h1 : decide ((l0.length : Int) < 17) = false := decide_eq_false h17
  have HC := fun W h1 => scullerref02_Right.calls kk A0 c0 l0 false W h1 hc0 h
  have HR := Aside0.mk hr0
  clear h17 h hr0
  go_enter Try.func101, Try.ntmps101
  go_wp2_with fail
  refine (HC _ (Kd.C_alloc HR.out _)).mono ?_
  rintro e w1 ⟨rfl, hb⟩
  have hbk := blk_below (blk_new w (.cells #[.int .u64 0, .slice none 0 0, .int .u32 0, .slice none 0 0] 66)) hb
  have HB := Aside0.mk (below_step (below_alloc (Below.refl w.heap.size w) _) hb)
  obtain ⟨⟨k0, k1, k2, k3⟩, kf0, kf1, kf2, kf3⟩ := openD hbk
  clear hb hbk
  go_wp2
  exact bodyPost_ret (v := .tuple #[.agg #[.int .u64 0, .slice none 0 0, .int .u32 0, .slice none 0 0], .int .i64 12]) (by simp [results, Try.results101, go_sem, k0, k1, k2, k3]) rfl ⟨rfl, by (repeat (first | (with_reducible exact HB.out) | refine below_set ?_ (Nat.le_refl _)))⟩
set_option maxRecDepth 100000 in
set_option maxHeartbeats 4000000 in
theorem rdec_main (kk : Nat) (A0 : Option Addr) (c0 : Nat) (l0 : List Int) (w : World) (h17 : ¬ (l0.length : Int) < 17) (hbig : ¬ 17592186044416 ≤ l0.length) (hr0 : Kd.C (Kd.int .u8) w A0 l0.length l0) (hc0 : l0.length ≤ c0) (h : scullerref02_Right.f kk l0 = some true)
    (v1 v2 b12 nb vy : Int) (e1 : scullerref01_Get.f kk (l0.take 8) = some v1) (e2 : scullerref01_Get.f kk (midD l0 8 12) = some v2) (e12 : rd l0 12 = b12) (hnb : wrap64 b12 = nb) (hvy : IntKind.u32.wrap v2 = vy)
    (M : Nat) (SZ : List Int) (hM : (M : Int) ≤ nb ∧ 17 + 2 * M ≤ l0.length ∨ M = 0) (hM2 : ¬ ((M : Int) < nb ∧ 17 + 2 * (M + 1) ≤ l0.length)) (hlen : SZ.length = M) (hget : ∀ j, j < M → ∃ q, scullerref01_Get.f kk (midD l0 (13 + 2 * j) (13 + 2 * j + 2)) = some q ∧ wrap64 q = SZ.getD j 0)
    (kn c : List Int) (er : Int) (q : Bool) (hkn : midD l0 (13 + 2 * M) (l0.length - 4) = kn) (hce : scullerref14_Encode.f kk v1 SZ vy kn = some (c, er)) (hq : ((strOfNums c).toList == (strOfNums l0).toList) = q)
    (r1 : Int) (r2 : List Int) (r3 : Int) (r4 : List Int) (r5 : Int) (hres : (if er = 0 then (if q = true then some (v1, SZ, vy, kn, (0 : Int)) else some (0, [], 0, [], 11)) else some (0, [], 0, [], 11)) = some (r1, r2, r3, r4, r5)) :
    Calls Try.prog 101 #[.slice A0 l0.length c0] w fun e w' => ∃ (v1_ : Value) (Ab : Option Addr) (cb : Nat), e = .returned (.tuple #[.agg #[.int .u64 r1, v1_, .int .u32 r3, .slice Ab r4.length cb], .int .i64 r5]) ∧ Kd.R (Kd.int .i64) 3 w' w.heap.size (fun _ => True) v1_ r2 ∧ Kd.C (Kd.int .u8) w' Ab r4.length r4 ∧ r4.length ≤ cb ∧ Below w.heap.size w w' := by
  have h1 : decide ((l0.length : Int) < 17) = false := decide_eq_false h17
  have HC := Aside0.mk (fun W h1 => scullerref02_Right.calls kk A0 c0 l0 true W h1 hc0 h)
  have HR := Aside0.mk hr0
  have hmx : (l0.length : Int) ≤ 9223372036854775807 := by omega
  obtain ⟨ad0, e0, hcell0⟩ := Kd.at_int hr0 (12 : Int) (by omega) (by omega)
  obtain ⟨q1, p1, g1⟩ := cutD_to A0 c0 l0 8 (by omega) hc0
  obtain ⟨A2, q2, p2, g2⟩ := cutD_at A0 c0 l0 8 12 (by omega) (by omega) hc0
  have hML : 17 + 2 * M ≤ l0.length := by omega
  obtain ⟨A5, q5, p5, g5⟩ := cutD_at A0 c0 l0 (13 + 2 * M) (l0.length - 4) (by omega) (by omega) hc0
  rw [hkn] at q5 p5 g5
  have q5' : ∀ W : World, (Instr.slice 22 (.slice A0 l0.length c0) (some (.int .i64 ((13 + 2 * M : Nat) : Int))) (some (.int .i64 ((l0.length : Int) - 4))) none).run Try.prog W = .ok (.slice A5 kn.length (c0 - (13 + 2 * M))) W := by
    intro W; have := q5 W; rwa [show ((l0.length - 4 : Nat) : Int) = (l0.length : Int) - 4 by omega] at this
  obtain ⟨c5, hc5⟩ : ∃ c5, c0 - (13 + 2 * M) = c5 := ⟨_, rfl⟩
  rw [hc5] at q5' g5
  have HQ5 := Aside0.mk q5'
  have HC1 := Aside0.mk (p1 w hr0)
  have HC2 := Aside0.mk (p2 w hr0)
  have HC5 := Aside0.mk (p5 w hr0)
  have HL5 := Aside0.mk g5
  have e8 : (l0.take 8).length = 8 := by rw [List.length_take]; omega
  have HG1 := Aside0.mk (fun W h => scullerref01_Get.calls kk A0 c0 (l0.take 8) v1 W h g1 e1)
  rw [e8] at HC1 HG1 q1
  have HG2 := Aside0.mk (fun W h => scullerref01_Get.calls kk A2 (c0 - 8) (midD l0 8 12) v2 W h g2 e2)
  have q1' : ∀ W : World, (Instr.slice 22 (.slice A0 l0.length c0) none (some (.int .i64 8)) none).run Try.prog W = .ok (.slice A0 8 c0) W := q1
  have q2' : ∀ W : World, (Instr.slice 22 (.slice A0 l0.length c0) (some (.int .i64 8)) (some (.int .i64 12)) none).run Try.prog W = .ok (.slice A2 (midD l0 8 12).length (c0 - 8)) W := q2
  clear hc5 e8 e1 e2 q1 q2 q5 q5' p1 p2 p5 g1 g2 g5 h hr0
  have H17 := Aside0.mk h17
  clear h17
  subst e0
  rw [e12] at hcell0
  have H12 := Aside0.mk (show w.cell? (ad0.add 12) = some (.int .u8 b12) from hcell0)
  clear hcell0 e12
  have HCE := Aside0.mk hce
  have HQ := Aside0.mk hq
  have HRES := Aside0.mk hres
  have HVY := Aside0.mk hvy
  have HNB := Aside0.mk hnb
  have HM2 := Aside0.mk hM2
  have HML := Aside0.mk hML
  have HGET := Aside0.mk hget
  have HLEN := Aside0.mk hlen
  have HBIG := Aside0.mk hbig
  have HM := Aside0.mk hM
  clear hce hq hres hvy hnb hM2 hML hget hlen hbig hM hkn
  go_enter Try.func101, Try.ntmps101
  go_wp2_with fail
  refine (HC.out _ (Kd.C_alloc HR.out _)).mono ?_
  rintro e w1 ⟨rfl, hb⟩
  have HK := Aside0.mk (blk_below (blk_new w (.cells #[.int .u64 0, .slice none 0 0, .int .u32 0, .slice none 0 0] 66)) hb)
  have HB := Aside0.mk (below_step (below_alloc (Below.refl w.heap.size w) _) hb)
  clear hb HC
  go_wp2_with fail
  refine (HG1.out _ (Kd.C_below HC1.out (by (repeat (first | (with_reducible exact HB.out) | refine below_alloc ?_ _))))).mono ?_
  rintro e w2 ⟨rfl, hb⟩
  have n0_ := Aside0.mk (blk_below (blk_alloc HK.out _) hb)
  have n1_ := Aside0.mk (blk_below (blk_new w1 (.cells #[.int .u64 0, .slice none 0 0, .int .u32 0, .slice none 0 0] 66)) hb)
  have n2_ := Aside0.mk (below_step (below_alloc HB.out _) hb)
  have HL := Aside0.mk (blk_lt HK.out)
  clear HK HB hb
  have HK := n0_
  have HT := n1_
  have HB := n2_
  clear n0_ n1_ n2_
  generalize w1.heap.size = T at HT HL ⊢
  have TN : T ≠ w.heap.size := Nat.ne_of_gt HL.out
  have TL : w.heap.size ≤ T := Nat.le_of_lt HL.out
  obtain ⟨⟨t0, t1, t2, t3⟩, tf0, tf1, tf2, tf3⟩ := openD HT.out
  go_wp2_with fail
  clear t0 t1 t2 t3 tf0 tf1 tf2 tf3
  refine (HG2.out _ (Kd.C_below HC2.out (by (repeat (first | (with_reducible exact HB.out) | refine below_set ?_ TL))))).mono ?_
  rintro e w3 ⟨rfl, hb⟩
  have n0_ := Aside0.mk (blk_below (blk_far HK.out (p := ⟨T, 0, none⟩) (Ne.symm TN) _) hb)
  have n1_ := Aside0.mk (blk_below (blk_put HT.out 0 (.int .u64 v1) rfl) hb)
  have n2_ := Aside0.mk (below_step (below_set HB.out TL) hb)
  clear HK HT HB hb
  have HK := n0_
  have HT := n1_
  have HB := n2_
  clear n0_ n1_ n2_
  obtain ⟨⟨t0, t1, t2, t3⟩, tf0, tf1, tf2, tf3⟩ := openD HT.out
  go_wp2_with fail
  clear t0 t1 t2 t3 tf0 tf1 tf2 tf3
  have WV : Aside0 True := ⟨trivial⟩
  have n0_ := Aside0.mk (blk_far HK.out (p := ⟨T, 2, none⟩) (Ne.symm TN) (.int .u32 (IntKind.u32.wrap v2)))
  have n1_ := Aside0.mk (blk_put HT.out 2 (.int .u32 (IntKind.u32.wrap v2)) rfl : _ = some (Obj.cells #[.int .u64 v1, .slice none 0 0, .int .u32 (IntKind.u32.wrap v2), .slice none 0 0] 66 (0, 0)))
  have n2_ := Aside0.mk (below_set (j := 2) (v := .int .u32 (IntKind.u32.wrap v2)) HB.out TL)
  clear HK HT HB HG1 HG2 HC1 HC2 q1' q2'
  have HK := n0_
  have HT := n1_
  have HB := n2_
  clear n0_ n1_ n2_ WV
  have hvz : v2 % 4294967296 = vy := by rw [← HVY.out]; simp [IntKind.wrap, IntKind.bits, IntKind.signed]
  rw [HVY.out] at HT HK HB
  (first | rw [HVY.out] | rw [hvz])
  clear HVY hvz
  generalize w3.setCell ⟨T, 2, none⟩ (.int .u32 vy) = W at HK HT HB ⊢
  have hlen := HLEN.out
  clear HLEN
  subst hlen
  have I0 : Aside0 ((∃ v, W.heap[T]? = some (.cells #[.int .u64 v1, v, .int .u32 vy, .slice none 0 0] 66 (0, 0)) ∧ Kd.R (Kd.int .i64) 3 W w.heap.size (fun _ => True) v (SZ.take 0)) ∧ W.heap[w.heap.size]? = some (.cells #[.int .u64 0, .slice none 0 0, .int .u32 0, .slice none 0 0] 66 (0, 0)) ∧ Below w.heap.size w W) :=
    ⟨⟨_, HT.out, Kd.R_nil _ _ _ _ _⟩, HK.out, HB.out⟩
  clear HK HT HB
  go_loopg [5, 6] SZ.length (fun kq v5 v6 W' => ∃ i : Nat, v5 = .int .i64 ((13 + 2 * i : Nat) : Int) ∧ v6 = .int .i64 (i : Int) ∧ Aside0 (i + kq = SZ.length) ∧ Aside0 ((∃ v, W'.heap[T]? = some (.cells #[.int .u64 v1, v, .int .u32 vy, .slice none 0 0] 66 (0, 0)) ∧ Kd.R (Kd.int .i64) 3 W' w.heap.size (fun _ => True) v (SZ.take i)) ∧ W'.heap[w.heap.size]? = some (.cells #[.int .u64 0, .slice none 0 0, .int .u32 0, .slice none 0 0] 66 (0, 0)) ∧ Below w.heap.size w W'))
  case atStart => exact ⟨0, rfl, rfl, ⟨by omega⟩, I0⟩
  case round =>
    clear I0
    obtain ⟨i, rfl, rfl, Hi, HI⟩ := hrel
    have hi := Hi.out
    obtain ⟨⟨u, hT, hS⟩, hK, hB⟩ := HI.out
    clear HI
    obtain ⟨x, hx⟩ : ∃ x : Int, x = ((13 + 2 * i : Nat) : Int) := ⟨_, rfl⟩
    have hil : i ≤ SZ.length := by omega
    have hbg := HBIG.out
    have hml := HML.out
    have hx2 : IntKind.i64.wrap (x + 2) = x + 2 := (i64_w _).trans (by unfold wrap64; omega)
    have hl4 : IntKind.i64.wrap ((l0.length : Int) - 4) = (l0.length : Int) - 4 := (i64_w _).trans (by unfold wrap64; omega)
    have hi1 : IntKind.i64.wrap ((i : Int) + 1) = (i : Int) + 1 := (i64_w _).trans (by unfold wrap64; omega)
    have hnb1 : IntKind.i64.wrap b12 = nb := (i64_w _).trans HNB.out
    have hnb2 := HNB.out
    have hcb : wr.cell? (ad0.add 12) = some (.int .u8 b12) := (hB.cell (World.block_lt_of_cell? _ _ H12.out)).trans H12.out
    have hcb2 : wr.cell? ⟨ad0.block, ad0.off + 12, none⟩ = some (.int .u8 b12) := hcb
    have h12 : (12 : Int) < (l0.length : Int) := by omega
    have h12' : 12 < l0.length := by omega
    rw [← hx]
    cases gk with
    | zero =>
      obtain rfl : i = SZ.length := by omega
      have hcase : decide ((SZ.length : Int) < nb) = false ∨ (decide ((SZ.length : Int) < nb) = true ∧ decide (x + 2 ≤ (l0.length : Int) - 4) = false) := by
        by_cases hc : (SZ.length : Int) < nb
        · exact .inr ⟨decide_eq_true hc, decide_eq_false (fun e => HM2.out ⟨hc, by omega⟩)⟩
        · exact .inl (decide_eq_false hc)
      have HX := Aside0.mk hx
      have HHB := Aside0.mk hbg
      have q5x : ∀ W : World, (Instr.slice 22 (.slice (some ad0) l0.length c0) (some (.int .i64 x)) (some (.int .i64 ((l0.length : Int) - 4))) none).run Try.prog W = .ok (.slice A5 kn.length c5) W := by intro W; rw [hx]; exact HQ5.out W
      clear hx hil hbg hml Hi hi
      rw [List.take_length] at hS
      obtain ⟨A7, c7, e7⟩ := Kd.R_slice hS
      subst e7
      have HK := Aside0.mk hK
      have HT := Aside0.mk hT
      have HSr := Aside0.mk hS
      have HB := Aside0.mk hB
      clear hK hT hS hB HHB
      have HCK := fun (W : World) (h1 : Kd.C (Kd.int .i64) W A7 SZ.length SZ) (h2 : Kd.C (Kd.int .u8) W A5 kn.length kn) => scullerref14_Encode.calls kk v1 A7 c7 SZ vy A5 c5 kn c er W h1 (Kd.R_reads' HSr.out).2.1 h2 HL5.out HCE.out
      have HCK2 := Aside0.mk HCK
      clear HCK
      rcases hcase with hc1 | ⟨hc1, hc2⟩
      all_goals
        obtain ⟨⟨t0, t1, t2, t3⟩, tf0, tf1, tf2, tf3⟩ := openD HT.out
        go_wp2_with fail
        clear t0 t1 t2 t3 tf0 tf1 tf2 tf3 q5x hcb hcb2 hc1
        (try clear hc2)
        have n0_ := Aside0.mk (blk_far HK.out (p := ⟨T, 3, none⟩) (Ne.symm TN) (.slice A5 kn.length c5))
        have n1_ := Aside0.mk (blk_put HT.out 3 (.slice A5 kn.length c5) rfl : _ = some (Obj.cells #[.int .u64 v1, .slice A7 SZ.length c7, .int .u32 vy, .slice A5 kn.length c5] 66 (0, 0)))
        have n2_ := Aside0.mk (Kd.R_mono (Kd.R_far (p := ⟨T, 3, none⟩) (Kd.R_types HSr.out HT.out (by decide)) (fun _ hk => hk.2) (.slice A5 kn.length c5)) (fun _ _ => trivial))
        have n3_ := Aside0.mk (below_set (j := 3) (v := .slice A5 kn.length c5) HB.out TL)
        clear HK HT HSr HB
        have HK := n0_
        have HT := n1_
        have HSr := n2_
        have HB := n3_
        clear n0_ n1_ n2_ n3_
        generalize wr.setCell ⟨T, 3, none⟩ (.slice A5 kn.length c5) = wz at HK HT HSr HB ⊢
        refine (HCK2.out wz (Kd.R_reads' HSr.out).2.2 (Kd.C_below HC5.out HB.out)).mono ?_
        rintro e W7 ⟨vc, rfl, hvc, hb⟩
        obtain ⟨Ac, cc, ec⟩ := Kd.R_slice hvc
        subst ec
        have HX2 := Aside0.mk hvc
        have n0_ := Aside0.mk (blk_below HK.out hb)
        have n1_ := Aside0.mk (blk_below HT.out hb)
        have n2_ := Aside0.mk (Kd.R_below HSr.out hb)
        have n4_ := Aside0.mk (below_step HB.out hb)
        clear HK HT HSr HB hvc hb
        have HK := n0_
        have HT := n1_
        have HSr := n2_
        have HB := n4_
        clear n0_ n1_ n2_ n4_
        by_cases he : er = 0
        · have he1 : ((er : Int) != 0) = false := bne_eq_false_iff_eq.mpr he
          have he2 : ((er : Int) == 0) = true := beq_iff_eq.mpr he
          have hr := HRES.out
          rw [if_pos he] at hr
          clear he
          have hs1 := Kd.C_string (P := Try.prog) (A := Ac) (c := cc) Try.underlying22 Try.underlying5 Try.underlying9 (Kd.R_reads' HX2.out).2.2
          have hs2 := Kd.C_string (P := Try.prog) (A := some ad0) (c := c0) Try.underlying22 Try.underlying5 Try.underlying9 (Kd.C_below HR.out HB.out)
          obtain ⟨⟨z0, z1, z2, z3⟩, zf0, zf1, zf2, zf3⟩ := openD HK.out
          obtain ⟨⟨k0, k1, k2, k3⟩, kf0, kf1, kf2, kf3⟩ := openD HT.out
          have hq := HQ.out
          cases q with
          | true =>
            have hq2 : ((strOfNums c).toList != (strOfNums l0).toList) = false := by rw [bne, hq]; rfl
            rw [if_pos rfl] at hr
            simp only [Option.some.injEq, Prod.mk.injEq] at hr
            obtain ⟨rfl, rfl, rfl, rfl, rfl⟩ := hr
            go_wp2
            exact bodyPost_ret (v := .tuple #[.agg #[.int .u64 v1, .slice A7 SZ.length c7, .int .u32 vy, .slice A5 kn.length c5], .int .i64 0]) (by simp [results, Try.results101, go_sem, z0, z1, z2, z3]) rfl ⟨_, _, _, rfl, (Kd.R_mono (Kd.R_far (p := ⟨w.heap.size, 3, none⟩) (Kd.R_far (p := ⟨w.heap.size, 2, none⟩) (Kd.R_far (p := ⟨w.heap.size, 1, none⟩) (Kd.R_far (p := ⟨w.heap.size, 0, none⟩) (Kd.R_types HSr.out HK.out (by decide)) (fun _ hk => hk.2) (.int .u64 v1)) (fun _ hk => hk.2) (.slice A7 SZ.length c7)) (fun _ hk => hk.2) (.int .u32 vy)) (fun _ hk => hk.2) (.slice A5 kn.length c5)) (fun _ _ => trivial)), (Kd.C_below HC5.out (by (repeat (first | (with_reducible exact HB.out) | refine below_set ?_ (Nat.le_refl _))))), HL5.out, by (repeat (first | (with_reducible exact HB.out) | refine below_set ?_ (Nat.le_refl _)))⟩
          | false =>
            have hq2 : ((strOfNums c).toList != (strOfNums l0).toList) = true := by rw [bne, hq]; rfl
            rw [if_neg (by simp)] at hr
            simp only [Option.some.injEq, Prod.mk.injEq] at hr
            obtain ⟨rfl, rfl, rfl, rfl, rfl⟩ := hr
            go_wp2
            exact bodyPost_ret (v := .tuple #[.agg #[.int .u64 0, .slice none 0 0, .int .u32 0, .slice none 0 0], .int .i64 11]) (by simp [results, Try.results101, go_sem, z0, z1, z2, z3]) rfl ⟨_, _, _, rfl, Kd.R_nil _ _ _ _ _, Kd.C_nil _ _, Nat.le_refl _, by (repeat (first | (with_reducible exact HB.out) | refine below_set ?_ (Nat.le_refl _)))⟩
        · have he1 : ((er : Int) != 0) = true := bne_iff_ne.mpr he
          have he2 : ((er : Int) == 0) = false := beq_eq_false_iff_ne.mpr he
          have hr := HRES.out
          rw [if_neg he] at hr
          clear he
          simp only [Option.some.injEq, Prod.mk.injEq] at hr
          obtain ⟨rfl, rfl, rfl, rfl, rfl⟩ := hr
          obtain ⟨⟨z0, z1, z2, z3⟩, zf0, zf1, zf2, zf3⟩ := openD HK.out
          go_wp2
          exact bodyPost_ret (v := .tuple #[.agg #[.int .u64 0, .slice none 0 0, .int .u32 0, .slice none 0 0], .int .i64 11]) (by simp [results, Try.results101, go_sem, z0, z1, z2, z3]) rfl ⟨_, _, _, rfl, Kd.R_nil _ _ _ _ _, Kd.C_nil _ _, Nat.le_refl _, by (repeat (first | (with_reducible exact HB.out) | refine below_set ?_ (Nat.le_refl _)))⟩
    | succ kq =>
      have HX_ := Aside0.mk hx
      obtain ⟨qv, hqv, hvq⟩ := HGET.out i (by omega)
      obtain ⟨Ag, hqg, hpg, hgg⟩ := cutD_at (some ad0) c0 l0 (13 + 2 * i) (13 + 2 * i + 2) (by omega) (by omega) hc0
      have HCg := Aside0.mk (hpg w HR.out)
      obtain ⟨gl, hgl⟩ : ∃ gl, midD l0 (13 + 2 * i) (13 + 2 * i + 2) = gl := ⟨_, rfl⟩
      obtain ⟨cg, hcg⟩ : ∃ cg, c0 - (13 + 2 * i) = cg := ⟨_, rfl⟩
      rw [hgl] at HCg hqg hgg hqv
      rw [hcg] at hqg hgg
      have hqx : ∀ W : World, (Instr.slice 22 (.slice (some ad0) l0.length c0) (some (.int .i64 x)) (some (.int .i64 (x + 2))) none).run Try.prog W = .ok (.slice Ag gl.length cg) W := by
        intro W; have := hqg W
        rwa [show ((13 + 2 * i : Nat) : Int) = x from hx.symm, show ((13 + 2 * i + 2 : Nat) : Int) = x + 2 by omega] at this
      have HGX := Aside0.mk (fun (W : World) (hc : Kd.C (Kd.int .u8) W Ag gl.length gl) => scullerref01_Get.calls kk Ag cg gl qv W hc hgg hqv)
      have hc1 : decide ((i : Int) < nb) = true := decide_eq_true (by have := HM.out; omega)
      have hc2 : decide (x + 2 ≤ (l0.length : Int) - 4) = true := decide_eq_true (by omega)
      obtain ⟨xs, hxs⟩ : ∃ xs, SZ.take i = xs := ⟨_, rfl⟩
      obtain ⟨ys, hys⟩ : ∃ ys, SZ.take (i + 1) = ys := ⟨_, rfl⟩
      have HYS_ := Aside0.mk hys
      have HYS := Aside0.mk (show xs ++ [wrap64 qv] = ys by
        rw [← hys]
        have hil : i < SZ.length := by omega
        rw [List.take_succ_eq_append_getElem hil, hxs, hvq, List.getD_eq_getElem?_getD, List.getElem?_eq_getElem hil]; rfl)
      have HXL := Aside0.mk (show xs.length < 9000000000000 by rw [← hxs, List.length_take]; omega)
      rw [hxs] at hS
      have HHT := Aside0.mk hT
      have HHK := Aside0.mk hK
      have HHS := Aside0.mk hS
      have HHB := Aside0.mk hB
      have HCB := Aside0.mk hcb
      clear hcb
      clear hT hK hS hB hqv hvq hxs hx hys hil hbg hml hqg hpg hgg hgl hcg hi
      go_wp2_with fail
      have HT1 := Aside0.mk (blk_drew HHT.out)
      have HK1 := Aside0.mk (blk_drew HHK.out)
      have HS1 := Aside0.mk (Kd.R_drew HHS.out)
      have HB1 := Aside0.mk (below_drew1 HHB.out)
      clear HHT HHK HHS HHB hcb2
      refine start_ (n := 15) (S := fun w' => w'.cell? ⟨T, 1, none⟩ = some u) (ds := [11, 14]) #[false, false, false, false, false, false, false, false, false, false, false, false, false, false, false] (by kernel_rfl) rfl rfl (((blk_cell HT1.out 1).trans rfl)) (fun hHeld => ?_)
      refine pure_ (i := 0) (N := some 45) (v := ?_) (a' := ?_) #[true, false, false, false, false, false, false, false, false, false, false, false, false, false, false] rfl rfl (by kernel_rfl) (fun _ _ _ h => h) (Or.inl ⟨by rfl, ?_⟩) ?_ ?_
      rotate_left
      · intro w'
        go_simp
        with_reducible rfl
      rotate_left
      · simp only [Act.put, List.setIfInBounds_toArray, List.set_cons_zero, List.set_cons_succ, i64_w, i32_w]
        rfl
      refine pure_ (i := 1) (N := some 46) (v := ?_) (a' := ?_) #[true, true, false, false, false, false, false, false, false, false, false, false, false, false, false] rfl rfl (by kernel_rfl) (fun _ _ _ h => h) (Or.inl ⟨by rfl, ?_⟩) ?_ ?_
      rotate_left
      · intro w'
        go_simp
        with_reducible rfl
      rotate_left
      · simp only [Act.put, List.setIfInBounds_toArray, List.set_cons_zero, List.set_cons_succ, i64_w, i32_w]
        rfl
      refine pure_ (i := 3) (N := some 48) (v := ?_) (a' := ?_) #[true, true, false, true, false, false, false, false, false, false, false, false, false, false, false] rfl rfl (by kernel_rfl) (fun _ _ _ h => h) (Or.inl ⟨by rfl, ?_⟩) ?_ ?_
      rotate_left
      · intro w'
        go_simp
        with_reducible rfl
      rotate_left
      · simp only [Act.put, List.setIfInBounds_toArray, List.set_cons_zero, List.set_cons_succ, i64_w, i32_w]
        rfl
      refine pure_ (i := 4) (N := some 49) (v := ?_) (a' := ?_) #[true, true, false, true, true, false, false, false, false, false, false, false, false, false, false] rfl rfl (by kernel_rfl) (fun _ _ _ h => h) (Or.inl ⟨by rfl, ?_⟩) ?_ ?_
      rotate_left
      · intro w'
        go_simp
        with_reducible rfl
      rotate_left
      · simp only [Act.put, List.setIfInBounds_toArray, List.set_cons_zero, List.set_cons_succ, i64_w, i32_w]
        rfl
      refine pure_ (i := 5) (N := some 50) (v := ?_) (a' := ?_) #[true, true, false, true, true, true, false, false, false, false, false, false, false, false, false] rfl rfl (by kernel_rfl) (fun _ _ _ h => h) (Or.inl ⟨by rfl, ?_⟩) ?_ ?_
      rotate_left
      · intro w'
        go_simp
        with_reducible rfl
      rotate_left
      · simp only [Act.put, List.setIfInBounds_toArray, List.set_cons_zero, List.set_cons_succ, i64_w, i32_w]
        rfl
      refine pure_ (i := 6) (N := some 51) (v := ?_) (a' := ?_) #[true, true, false, true, true, true, true, false, false, false, false, false, false, false, false] rfl rfl (by kernel_rfl) (fun _ _ _ h => h) (Or.inl ⟨by rfl, ?_⟩) ?_ ?_
      rotate_left
      · intro w'
        go_simp
        with_reducible rfl
      rotate_left
      · simp only [Act.put, List.setIfInBounds_toArray, List.set_cons_zero, List.set_cons_succ, i64_w, i32_w]
        rfl
      refine pure_ (i := 7) (N := some 52) (v := ?_) (a' := ?_) #[true, true, false, true, true, true, true, true, false, false, false, false, false, false, false] rfl rfl (by kernel_rfl) (fun _ _ _ h => h) (Or.inl ⟨by rfl, ?_⟩) ?_ ?_
      rotate_left
      · intro w'
        go_simp
        with_reducible rfl
      rotate_left
      · simp only [Act.put, List.setIfInBounds_toArray, List.set_cons_zero, List.set_cons_succ, i64_w, i32_w]
        rfl
      refine take_ (i := 2) (N := some 47) (v := ?_) (a' := ?_) #[true, true, true, true, true, true, true, true, false, false, false, false, false, false, false] rfl rfl (by kernel_rfl) (fun _ _ _ h => h) (Or.inl ⟨by rfl, ?_⟩) hHeld ?_ ?_
      rotate_left
      · intro w' s0
        go_simp
        with_reducible rfl
      rotate_left
      · simp only [Act.put, List.setIfInBounds_toArray, List.set_cons_zero, List.set_cons_succ, i64_w, i32_w]
        rfl
      refine one_ (i := 8) (N := some 53) #[true, true, true, true, true, true, true, true, true, false, false, false, false, false, false] rfl rfl (by kernel_rfl) (by decide) (fun K hK => ?_)
      refine goes_ Try.func132 (by kernel_rfl) rfl #[.slice Ag gl.length cg] (by rfl) rfl rfl (by first | (simp only [List.map_toArray, List.map_cons, List.map_nil]; done) | (simp only [List.map_toArray, List.map_cons, List.map_nil]; rfl)) ?_
      with_reducible refine (HGX.out _ (Kd.C_below HCg.out HB1.out)).mono ?_
      rintro e W3 ⟨rfl, hb⟩
      refine ⟨_, rfl, ?_⟩
      have HT3 := Aside0.mk (blk_below HT1.out hb)
      have HK3 := Aside0.mk (blk_below HK1.out hb)
      have HS3 := Aside0.mk (Kd.R_below HS1.out hb)
      have HB3 := Aside0.mk (below_step HB1.out hb)
      clear hb HT1 HK1 HS1 HB1
      refine hK.out _ _ (((blk_cell HT3.out 1).trans rfl)) (fun hHeld => ?_)
      clear hK K
      refine norm_ (a' := ?_) ?_ ?_
      rotate_left
      · show Act.put _ (some 53) _ = _
        simp only [Act.put, List.setIfInBounds_toArray, List.set_cons_zero, List.set_cons_succ, i64_w, i32_w]
        rfl
      refine pure_ (i := 9) (N := some 54) (v := ?_) (a' := ?_) #[true, true, true, true, true, true, true, true, true, true, false, false, false, false, false] rfl rfl (by kernel_rfl) (fun _ _ _ h => h) (Or.inl ⟨by rfl, ?_⟩) ?_ ?_
      rotate_left
      · intro w'
        go_simp
        with_reducible rfl
      rotate_left
      · simp only [Act.put, List.setIfInBounds_toArray, List.set_cons_zero, List.set_cons_succ, i64_w, i32_w]
        rfl
      refine one_ (i := 10) (N := some 55) #[true, true, true, true, true, true, true, true, true, true, true, false, false, false, false] rfl rfl (by kernel_rfl) (by decide) (fun K hK => ?_)
      refine value_ (w1 := ?_) (v := ?_) (by rfl) rfl ?_ ?_
      rotate_left 2
      · go_simp
        constructor
        · rfl
        · rfl
      refine hK.out _ _ (((blk_cell (blk_alloc HT3.out _) 1).trans rfl)) (fun hHeld => ?_)
      clear hK K
      refine norm_ (a' := ?_) ?_ ?_
      rotate_left
      · show Act.put _ (some 55) _ = _
        simp only [Act.put, List.setIfInBounds_toArray, List.set_cons_zero, List.set_cons_succ, i64_w, i32_w]
        rfl
      refine last_ (i := 11) (N := some 56) #[true, true, true, true, true, true, true, true, true, true, true, true, false, false, false] rfl rfl (by kernel_rfl) (by decide) (fun K hK => ?_)
      refine Kd.R_append_step (Kd.int .i64) (w0 := w) w.heap.size (by rfl) (.tmp 47) (.tmp 55) 42 3 (.int .i64 0) 8 rfl Try.underlying42 info3 rfl (by decide) (by omega) u xs (wrap64 qv) [.int .i64 (wrap64 qv)] (fun _ => True) (fun _ => False) rfl rfl ?aP (fun _ hk => hk.elim) ?aF ?aO ?aB ?aS ?aL ?_
      (case aP => exact rfl)
      (case aB => exact HB3.out)
      (case aF => exact fun _ _ => trivial)
      (case aO => exact HS3.out)
      (case aS => exact HB3.out.size)
      (case aL => have := HXL.out; omega)
      intro v7 W7 ho hb hg hat
      rw [HYS.out] at ho
      have HO7 := Aside0.mk ho
      have HB7 := Aside0.mk hb
      have HT7 := Aside0.mk (blk_grown HT3.out hg (Kd.R_ne HS3.out HT3.out (by decide)))
      have HK7 := Aside0.mk (blk_grown HK3.out hg (Kd.R_ne HS3.out HK3.out (by decide)))
      clear ho hb hg hat
      obtain ⟨A7, c7, e7⟩ := Kd.R_slice HO7.out
      subst e7
      have t5 : W7.cell? ⟨T, 1, none⟩ = some u := (blk_cell HT7.out 1).trans rfl
      have tf5 : W7.frozen? ⟨T, 1, none⟩ = false := blk_frozen HT7.out 1
      refine hK.out _ _ ?_
      clear hK K
      refine norm_ (a' := ?_) ?_ ?_
      rotate_left
      · show Act.put _ (some 56) _ = _
        simp only [Act.put, List.setIfInBounds_toArray, List.set_cons_zero, List.set_cons_succ, i64_w, i32_w]
        rfl
      refine pure_ (i := 12) (N := some 57) (v := ?_) (a' := ?_) #[true, true, true, true, true, true, true, true, true, true, true, true, true, false, false] rfl rfl (by kernel_rfl) (fun _ _ _ h => h) (Or.inl ⟨by rfl, ?_⟩) ?_ ?_
      rotate_left
      · intro w'
        go_simp
        with_reducible rfl
      rotate_left
      · simp only [Act.put, List.setIfInBounds_toArray, List.set_cons_zero, List.set_cons_succ, i64_w, i32_w]
        rfl
      refine pure_ (i := 13) (N := some 58) (v := ?_) (a' := ?_) #[true, true, true, true, true, true, true, true, true, true, true, true, true, true, false] rfl rfl (by kernel_rfl) (fun _ _ _ h => h) (Or.inl ⟨by rfl, ?_⟩) ?_ ?_
      rotate_left
      · intro w'
        go_simp
        with_reducible rfl
      rotate_left
      · simp only [Act.put, List.setIfInBounds_toArray, List.set_cons_zero, List.set_cons_succ, i64_w, i32_w]
        rfl
      refine last_ (i := 14) (N := none) #[true, true, true, true, true, true, true, true, true, true, true, true, true, true, true] rfl rfl (by kernel_rfl) (by decide) (fun K hK => ?_)
      refine skip_ (w1 := ?_) (by rfl) rfl ?_ ?_
      rotate_left
      · go_simp
        rfl
      refine hK.out _ _ ?_
      clear hK K
      refine done_ (by kernel_rfl) ?_

      have nT := blk_put HT7.out 1 (.slice A7 ys.length c7) rfl
      have nK := blk_far HK7.out (p := ⟨T, 1, none⟩) (Ne.symm TN) (.slice A7 ys.length c7)
      have nO := Kd.R_mono (Kd.R_far (p := ⟨T, 1, none⟩) (Kd.R_types HO7.out HT7.out (by decide)) (fun _ hk => hk.2) (.slice A7 ys.length c7)) (fun _ _ => trivial)
      have nB := HB7.out.setCell (p := ⟨T, 1, none⟩) TL (.slice A7 ys.length c7)
      go_wp2
      go_roundg kq
      case measure => omega
      case rel =>
        refine ⟨i + 1, ?_, by first | rfl | go_num, ⟨by have := Hi.out; omega⟩, ⟨⟨.slice A7 ys.length c7, by first | exact nT | exact blk_drew nT, by rw [HYS_.out]; exact nO⟩, by first | exact nK | exact blk_drew nK, by first | exact nB | exact below_drew1 nB⟩⟩
        have := HX_.out
        congr 1
        omega
/-- how many sizes are read -/
def dcount (l : List Int) : Nat := min (wrap64 (rd l 12)).toNat ((l.length - 17) / 2)
/-- the sizes, two bytes each, by the document's word -/
def dsizes (kk : Nat) (l : List Int) : Nat → Option (List Int)
  | 0 => some []
  | m + 1 => (dsizes kk l m).bind fun s => (scullerref01_Get.f kk (midD l (13 + 2 * m) (13 + 2 * m + 2))).bind fun q => some (s ++ [wrap64 q])
theorem dsizes_some (kk : Nat) (l : List Int) : ∀ (m : Nat) (ss : List Int), dsizes kk l m = some ss → ss.length = m ∧ ∀ j, j < m → ∃ q, scullerref01_Get.f kk (midD l (13 + 2 * j) (13 + 2 * j + 2)) = some q ∧ wrap64 q = ss.getD j 0 := by
  intro m
  induction m with
  | zero => intro ss h; cases h; exact ⟨rfl, fun j hj => by omega⟩
  | succ m ih =>
    intro ss h
    rw [dsizes] at h
    obtain ⟨s, hs, h⟩ := Option.bind_eq_some_iff.mp h
    obtain ⟨x, hx, h⟩ := Option.bind_eq_some_iff.mp h
    obtain rfl := Option.some.inj h
    obtain ⟨h1, h2⟩ := ih s hs
    refine ⟨by rw [List.length_append, h1]; rfl, fun j hj => ?_⟩
    by_cases hjm : j < m
    · obtain ⟨q, hq, hv⟩ := h2 j hjm
      refine ⟨q, hq, ?_⟩
      rw [hv]
      simp [List.getD_eq_getElem?_getD, List.getElem?_append_left (show j < s.length by omega)]
    · obtain rfl : j = m := by omega
      refine ⟨x, hx, ?_⟩
      simp [List.getD_eq_getElem?_getD, h1]
/-- What the document's Decode computes. -/
def scullerref14_Decode.f (k : Nat) (l0 : List Int) : Option (Int × List Int × Int × List Int × Int) :=
  if 17592186044416 ≤ l0.length then none else if (l0.length : Int) < 17 then some (0, [], 0, [], 10) else
  (scullerref02_Right.f k l0).bind fun ok => if ok = true then
    (scullerref01_Get.f k (l0.take 8)).bind fun v1 => (scullerref01_Get.f k (midD l0 8 12)).bind fun v2 => (dsizes k l0 (dcount l0)).bind fun ss =>
      (scullerref14_Encode.f k v1 ss (IntKind.u32.wrap v2) (midD l0 (13 + 2 * dcount l0) (l0.length - 4))).bind fun ce =>
        if ce.2 = 0 then (if ((strOfNums ce.1).toList == (strOfNums l0).toList) = true then some (v1, ss, IntKind.u32.wrap v2, midD l0 (13 + 2 * dcount l0) (l0.length - 4), 0) else some (0, [], 0, [], 11)) else some (0, [], 0, [], 11)
  else some (0, [], 0, [], 12)
theorem scullerref14_Decode.calls (k : Nat) (A0 : Option Addr) (c0 : Nat) (l0 : List Int) (r1 : Int) (r2 : List Int) (r3 : Int) (r4 : List Int) (r5 : Int) (w : World) (hr0 : Kd.C (Kd.int .u8) w A0 l0.length l0) (hc0 : l0.length ≤ c0) (h : scullerref14_Decode.f k l0 = some (r1, r2, r3, r4, r5)) :
    Calls Try.prog 101 #[.slice A0 l0.length c0] w fun e w' => ∃ (v1_ : Value) (Ab : Option Addr) (cb : Nat), e = .returned (.tuple #[.agg #[.int .u64 r1, v1_, .int .u32 r3, .slice Ab r4.length cb], .int .i64 r5]) ∧ Kd.R (Kd.int .i64) 3 w' w.heap.size (fun _ => True) v1_ r2 ∧ Kd.C (Kd.int .u8) w' Ab r4.length r4 ∧ r4.length ≤ cb ∧ Below w.heap.size w w' := by
  unfold scullerref14_Decode.f at h
  by_cases hbig : 17592186044416 ≤ l0.length
  · rw [if_pos hbig] at h; cases h
  rw [if_neg hbig] at h
  by_cases h17 : (l0.length : Int) < 17
  · rw [if_pos h17] at h
    simp only [Option.some.injEq, Prod.mk.injEq] at h
    obtain ⟨rfl, rfl, rfl, rfl, rfl⟩ := h
    exact (rdec_short A0 c0 l0 w h17).mono fun e w' ⟨he, hb⟩ => ⟨_, _, _, he, Kd.R_nil _ _ _ _ _, Kd.C_nil _ _, Nat.le_refl _, hb⟩
  rw [if_neg h17] at h
  obtain ⟨ok, hok, h⟩ := Option.bind_eq_some_iff.mp h
  cases ok with
  | false =>
    rw [if_neg (by simp)] at h
    simp only [Option.some.injEq, Prod.mk.injEq] at h
    obtain ⟨rfl, rfl, rfl, rfl, rfl⟩ := h
    exact (rdec_sum k A0 c0 l0 w h17 hr0 hc0 hok).mono fun e w' ⟨he, hb⟩ => ⟨_, _, _, he, Kd.R_nil _ _ _ _ _, Kd.C_nil _ _, Nat.le_refl _, hb⟩
  | true =>
    rw [if_pos rfl] at h
    obtain ⟨v1, e1, h⟩ := Option.bind_eq_some_iff.mp h
    obtain ⟨v2, e2, h⟩ := Option.bind_eq_some_iff.mp h
    obtain ⟨ss, hss, h⟩ := Option.bind_eq_some_iff.mp h
    obtain ⟨⟨c, er⟩, hce, h⟩ := Option.bind_eq_some_iff.mp h
    obtain ⟨hl, hg⟩ := dsizes_some k l0 _ ss hss
    have hd : dcount l0 = min (wrap64 (rd l0 12)).toNat ((l0.length - 17) / 2) := rfl
    exact rdec_main k A0 c0 l0 w h17 hbig hr0 hc0 hok v1 v2 _ _ _ e1 e2 rfl rfl rfl (dcount l0) ss (by omega) (by omega) hl hg _ c er _ rfl hce rfl r1 r2 r3 r4 r5 h
end Go.Proofs.Ytliohoalackhiaa.J
