/- The law ManiTells returns true: a manifest is told apart by its session, by any one byte of the arena, and by where its segments end: for every session, choices and place, in whatever memory. Conditions: lengths as a memory has them. -/
import Derived.Test.YtliohoalackhiaaSKgManiOf
import Derived.Test.YtliohoalackhiaaSKx7
import Derived.Test.YtliohoalackhiaaSKx9
import Derived.Test.YtliohoalackhiaaSKx5
import Derived.Test.YtliohoalackhiaaSKKMan
import Derived.Test.YtliohoalackhiaaSKKAre
import Derived.Laws.BitsAllLaws
import Derived.StillTailTactics
namespace Go.Proofs.Ytliohoalackhiaa.K
open Go.RowKit Go.Proofs.YtliohoalackhiaaW.PrintWords Go.Proofs.YtliohoalackhiaaW.PrintLast Go.Proofs.YtliohoalackhiaaW.PrintMore Go.Proofs.Ytliohoalackhiaa.Num Go.Proofs.Ytliohoalackhiaa.CrcN
set_option linter.unusedVariables false
set_option linter.unusedSimpArgs false
attribute [local go_sem] max2_int min2_int max_two min_two
/-- byte m of x with v put upon byte q -/
theorem byte_xor (x v q m : Nat) (hv : v < 256) : (x ^^^ (v <<< (8 * q))) >>> (8 * m) % 256 = if m = q then (x >>> (8 * m) % 256) ^^^ v else x >>> (8 * m) % 256 := by
  have hvb : ∀ i, 8 ≤ i → v.testBit i = false := fun i hi => Nat.testBit_lt_two_pow (Nat.lt_of_lt_of_le hv (Nat.pow_le_pow_right (n := 2) (by omega) hi))
  apply Nat.eq_of_testBit_eq
  intro i
  rw [show (256 : Nat) = 2 ^ 8 from rfl, Nat.testBit_mod_two_pow, Nat.testBit_shiftRight, Nat.testBit_xor, Nat.testBit_shiftLeft]
  by_cases hi : i < 8
  · by_cases hm : m = q
    · subst hm
      rw [if_pos rfl, Nat.testBit_xor, Nat.testBit_mod_two_pow, Nat.testBit_shiftRight]
      have h1 : 8 * m + i - 8 * m = i := by omega
      have h2 : 8 * m + i ≥ 8 * m := by omega
      rw [h1]
      simp [hi, h2]
    · rw [if_neg hm, Nat.testBit_mod_two_pow, Nat.testBit_shiftRight]
      rcases Nat.lt_or_ge m q with h | h
      · have h2 : ¬ (8 * m + i ≥ 8 * q) := by omega
        simp [hi, h2]
      · have h3 : v.testBit (8 * m + i - 8 * q) = false := hvb _ (by omega)
        simp [hi, h3]
  · by_cases hm : m = q
    · subst hm
      rw [if_pos rfl, Nat.testBit_xor, Nat.testBit_mod_two_pow, hvb i (by omega)]
      simp [hi]
    · rw [if_neg hm, Nat.testBit_mod_two_pow]
      simp [hi]
theorem putL_nat (x : Nat) (m : Nat) : putL (x : Int) m = (List.range m).map fun i => ((x >>> (8 * i) % 256 : Nat) : Int) := by
  induction m with
  | zero => rfl
  | succ m ih =>
    rw [putL, ih, List.range_succ, List.map_append]
    congr 1
    have h : x >>> (8 * m) = x / 256 ^ m := by
      rw [Nat.shiftRight_eq_div_pow, Nat.pow_mul]
    show [(x : Int) / 256 ^ m % 256] = [((x >>> (8 * m) % 256 : Nat) : Int)]
    rw [h, Int.natCast_emod, Int.natCast_ediv, Int.natCast_pow]
    rfl
theorem range8 {q : Nat} (h : q < 8) : List.range 8 = List.range q ++ q :: List.range' (q + 1) (7 - q) := by
  match q, h with
  | 0, _ => rfl
  | 1, _ => rfl
  | 2, _ => rfl
  | 3, _ => rfl
  | 4, _ => rfl
  | 5, _ => rfl
  | 6, _ => rfl
  | 7, _ => rfl
  | _ + 8, h => omega
/-- the eight bytes of a word: v upon byte q -/
theorem put8_xor (x v q : Nat) (hv : v < 256) (hq : q < 8) : ∃ (L R : List Int) (c : Nat), c < 256 ∧ L.length = q ∧ putL (x : Int) 8 = L ++ [(c : Int)] ++ R ∧ putL ((x ^^^ (v <<< (8 * q)) : Nat) : Int) 8 = L ++ [((c ^^^ v : Nat) : Int)] ++ R := by
  refine ⟨(List.range q).map fun i => ((x >>> (8 * i) % 256 : Nat) : Int), (List.range' (q + 1) (7 - q)).map fun i => ((x >>> (8 * i) % 256 : Nat) : Int), x >>> (8 * q) % 256, Nat.mod_lt _ (by omega), by simp, ?_, ?_⟩
  · rw [putL_nat, range8 hq, List.map_append, List.map_cons]
    simp
  · rw [putL_nat, range8 hq, List.map_append, List.map_cons]
    have e1 : (List.range q).map (fun i => (((x ^^^ (v <<< (8 * q))) >>> (8 * i) % 256 : Nat) : Int)) = (List.range q).map fun i => ((x >>> (8 * i) % 256 : Nat) : Int) := by
      refine List.map_congr_left fun i hi => ?_
      rw [byte_xor x v q i hv, if_neg (by have := List.mem_range.1 hi; omega)]
    have e2 : (List.range' (q + 1) (7 - q)).map (fun i => (((x ^^^ (v <<< (8 * q))) >>> (8 * i) % 256 : Nat) : Int)) = (List.range' (q + 1) (7 - q)).map fun i => ((x >>> (8 * i) % 256 : Nat) : Int) := by
      refine List.map_congr_left fun i hi => ?_
      rw [byte_xor x v q i hv, if_neg (by have := List.mem_range'_1.1 hi; omega)]
    rw [e1, e2, byte_xor x v q q hv, if_pos rfl]
    simp
/-- a byte within: v upon it turns the sum but where v is nought -/
theorem sum_xor (P S : List Nat) (c v : Nat) (hv : v < 256) : (sumN (P ++ [c ^^^ v] ++ S) = sumN (P ++ [c] ++ S)) ↔ v = 0 := by
  constructor
  · intro h
    have hF : F top (P ++ [c ^^^ v] ++ S) = F top (P ++ [c] ++ S) := by
      have h2 : top ^^^ (top ^^^ F top (P ++ [c ^^^ v] ++ S)) = top ^^^ (top ^^^ F top (P ++ [c] ++ S)) := congrArg (fun z => top ^^^ z) h
      rwa [← Nat.xor_assoc, ← Nat.xor_assoc, Nat.xor_self, Nat.zero_xor, Nat.zero_xor] at h2
    have hl : P.length < (P ++ [c] ++ S).length := by simp
    have hg : (P ++ [c] ++ S)[P.length] = c := by simp
    have hs : P ++ [c ^^^ v] ++ S = (P ++ [c] ++ S).set P.length ((P ++ [c] ++ S)[P.length] ^^^ v) := by
      rw [hg]; simp
    rw [hs, F_set top _ _ v hl] at hF
    have hz : st (8 * ((P ++ [c] ++ S).length - P.length)) v = 0 := by
      have h3 : F top (P ++ [c] ++ S) ^^^ (F top (P ++ [c] ++ S) ^^^ st (8 * ((P ++ [c] ++ S).length - P.length)) v) = F top (P ++ [c] ++ S) ^^^ F top (P ++ [c] ++ S) := by rw [hF]
      rwa [← Nat.xor_assoc, Nat.xor_self, Nat.zero_xor] at h3
    exact st_eq_zero _ (by omega) hz
  · rintro rfl
    rw [Nat.xor_zero]
theorem nats_app (a b : List Int) : nats (a ++ b) = nats a ++ nats b := List.map_append
theorem flat_set {a : List (List Int)} {i : Nat} (h : i < a.length) (y : List Int) : (a.set i y).flatten = (a.take i).flatten ++ y ++ (a.drop (i + 1)).flatten := by
  rw [List.set_eq_take_append_cons_drop, if_pos h, List.flatten_append, List.flatten_cons, List.append_assoc]
theorem set_split {l : List Int} {k : Nat} (h : k < l.length) (y : Int) : l.set k y = l.take k ++ [y] ++ l.drop (k + 1) := by
  rw [List.set_eq_take_append_cons_drop, if_pos h]; simp
theorem lens_set {a : List (List Int)} {i : Nat} (h : i < a.length) {y : List Int} (hy : y.length = (a.getD i []).length) : lens (a.set i y) = lens a := by
  unfold lens
  rw [List.map_set, hy]
  apply List.ext_getElem (by simp)
  intro j h1 h2
  rw [List.getElem_set]
  split
  · rename_i he
    subst he
    simp [List.getD_eq_getElem?_getD, List.getElem?_eq_getElem h]
  · rfl
/-- ONE BYTE OF ONE WORD: the sizes are the same, the sum is the same just where nothing was put upon the byte. -/
theorem tell_byte {a : List (List Int)} {i k : Nat} (hi : i < a.length) (hk : k < (a.getD i []).length) (s : Int) (x v q : Nat) (hx : (a.getD i []).getD k 0 = (x : Int)) (hv : v < 256) (hq : q < 8) :
    lens (a.set i ((a.getD i []).set k ((x ^^^ (v <<< (8 * q)) : Nat) : Int))) = lens a ∧ (sumN (nats (manB s (a.set i ((a.getD i []).set k ((x ^^^ (v <<< (8 * q)) : Nat) : Int))))) = sumN (nats (manB s a)) ↔ v = 0) := by
  have hL := lens_set hi (y := (a.getD i []).set k ((x ^^^ (v <<< (8 * q)) : Nat) : Int)) (by rw [List.length_set])
  refine ⟨hL, ?_⟩
  obtain ⟨L, R, c, hc, _, e1, e2⟩ := put8_xor x v q hv hq
  have ha : a = a.set i ((a.getD i []).set k (x : Int)) := by
    rw [← hx, List.getD_eq_getElem?_getD (l := a.getD i []), List.getElem?_eq_getElem hk, Option.getD_some, List.set_getElem_self, List.getD_eq_getElem?_getD, List.getElem?_eq_getElem hi, Option.getD_some, List.set_getElem_self]
  have hwb : ∀ y : Int, wbytes (a.set i ((a.getD i []).set k y)).flatten = wbytes ((a.take i).flatten ++ (a.getD i []).take k) ++ putL y 8 ++ wbytes ((a.getD i []).drop (k + 1) ++ (a.drop (i + 1)).flatten) := by
    intro y
    rw [flat_set hi, set_split hk]
    have : (a.take i).flatten ++ ((a.getD i []).take k ++ [y] ++ (a.getD i []).drop (k + 1)) ++ (a.drop (i + 1)).flatten = ((a.take i).flatten ++ (a.getD i []).take k) ++ [y] ++ ((a.getD i []).drop (k + 1) ++ (a.drop (i + 1)).flatten) := by
      simp only [List.append_assoc]
    rw [this, wbytes_append, wbytes_append]
    simp [wbytes]
  have hm : ∀ y : Int, lens (a.set i ((a.getD i []).set k y)) = lens a := fun y => lens_set hi (by rw [List.length_set])
  have hn : nats (manB s a) = nats (manB s (a.set i ((a.getD i []).set k (x : Int)))) := by rw [← ha]
  rw [hn]
  unfold manB
  rw [hm, hm, hwb, hwb, e1, e2]
  have e3 : ∀ z : Nat, nats (putL s 8 ++ twos (lens a) ++ (wbytes ((a.take i).flatten ++ (a.getD i []).take k) ++ (L ++ [(z : Int)] ++ R) ++ wbytes ((a.getD i []).drop (k + 1) ++ (a.drop (i + 1)).flatten))) =
      nats (putL s 8 ++ twos (lens a) ++ wbytes ((a.take i).flatten ++ (a.getD i []).take k) ++ L) ++ [z] ++ nats (R ++ wbytes ((a.getD i []).drop (k + 1) ++ (a.drop (i + 1)).flatten)) := by
    intro z
    simp only [nats_app, List.append_assoc]
    congr 5
  rw [e3, e3]
  exact sum_xor _ _ c v hv
/-- THE WORD AS THE CODE MAKES IT. -/
theorem word_xor (x v t : Int) (hx : 0 ≤ x ∧ x ≤ 18446744073709551615) (hv : 0 ≤ v ∧ v ≤ 255) (ht : 0 ≤ t ∧ t ≤ 255) :
    Go.bits .xor .u64 x (IntKind.u64.wrap (IntKind.u64.wrap v * 2 ^ min (t.tmod 8 * 8 % 256).toNat 64)) = ((x.toNat ^^^ (v.toNat <<< (8 * (t % 8).toNat)) : Nat) : Int) := by
  rw [Int.tmod_eq_emod_of_nonneg ht.1]
  have hq : (t % 8 * 8 % 256).toNat = 8 * (t % 8).toNat := by omega
  have hq8 : (t % 8).toNat < 8 := by omega
  rw [hq, Nat.min_eq_left (by omega)]
  generalize (t % 8).toNat = q at hq8 ⊢
  obtain ⟨n, rfl⟩ : ∃ n : Nat, v = n := ⟨v.toNat, by omega⟩
  obtain ⟨m, rfl⟩ : ∃ m : Nat, x = m := ⟨x.toNat, by omega⟩
  have hn : n < 256 := by omega
  have hm : m < 2 ^ 64 := by omega
  have hp : n * 2 ^ (8 * q) < 2 ^ 64 := by
    have h1 : 2 ^ (8 * q) ≤ 2 ^ 56 := Nat.pow_le_pow_right (by omega) (by omega)
    calc n * 2 ^ (8 * q) ≤ n * 2 ^ 56 := Nat.mul_le_mul_left _ h1
      _ < 2 ^ 64 := by omega
  rw [show IntKind.u64.wrap (n : Int) = (n : Int) by rw [u64w]; omega]
  have e : (n : Int) * 2 ^ (8 * q) = ((n * 2 ^ (8 * q) : Nat) : Int) := by rw [Int.natCast_mul, Int.natCast_pow]; rfl
  rw [e, show IntKind.u64.wrap ((n * 2 ^ (8 * q) : Nat) : Int) = ((n * 2 ^ (8 * q) : Nat) : Int) by rw [u64w]; omega]
  rw [u64_xor_nat m _ hm hp, Int.toNat_natCast, Int.toNat_natCast, Nat.shiftLeft_eq]
theorem aok_pos {a : List (List Int)} (h : Aok a) : 1 ≤ a.length := by
  rcases a with _ | ⟨x, t⟩
  · exact absurd h.f (by decide)
  · simp
theorem of_at (k : Nat) (a0 : Int) (A1 : Option Addr) (c1 : Nat) (l1 : List (List Int)) (n : Nat) (hn : l1.length = n) (r0 : Int) (r1 : List Int) (r2 r3 : Int) (w : World) (hr1 : Kd.C (Kd.slice 38 (Kd.int .u64)) w A1 l1.length l1) (hc1 : l1.length ≤ c1) (h : mani_Of.f k a0 l1 = some (r0, r1, r2, r3)) :
    Calls Try.prog 27 #[.int .u64 a0, .slice A1 n c1] w fun e w' => ∃ v1_ : Value, e = .returned (.tuple #[.agg #[.int .u64 r0, v1_, .int .u32 r2], .int .u16 r3]) ∧ Kd.R (Kd.int .i64) 3 w' w.heap.size (fun _ => True) v1_ r1 ∧ Below w.heap.size w w' := by
  subst hn
  exact mani_Of.calls k a0 A1 c1 l1 r0 r1 r2 r3 w hr1 hc1 h
theorem matches_at (k : Nat) (a0_0 : Int) (A0_1 : Option Addr) (c0_1 : Nat) (l0_1 : List Int) (a0_2 : Int) (A1 : Option Addr) (c1 : Nat) (l1 : List (List Int)) (n : Nat) (hn : l1.length = n) (r : Bool) (w : World) (hr0_1 : Kd.C (Kd.int .i64) w A0_1 l0_1.length l0_1) (hc0_1 : l0_1.length ≤ c0_1) (hr1 : Kd.C (Kd.slice 38 (Kd.int .u64)) w A1 l1.length l1) (hc1 : l1.length ≤ c1) (h : mani_Matches.f k a0_0 l0_1 a0_2 l1 = some r) :
    Calls Try.prog 30 #[.agg #[.int .u64 a0_0, .slice A0_1 l0_1.length c0_1, .int .u32 a0_2], .slice A1 n c1] w fun e w' => e = .returned (.bool r) ∧ Below w.heap.size w w' := by
  subst hn
  exact mani_Matches.calls k a0_0 A0_1 c0_1 l0_1 a0_2 A1 c1 l1 r w hr0_1 hc0_1 hr1 hc1 h
set_option maxRecDepth 100000 in
set_option maxHeartbeats 8000000 in
theorem tells_walk (K : Nat) (hK : 60 < K) (a0 : Int) (A1 : Option Addr) (c1 : Nat) (l1 : List Int) (a2 a3 a4 a5 a6 a7 : Int) (w : World) (hr1 : Kd.C (Kd.int .u8) w A1 l1.length l1) (hc1 : l1.length ≤ c1)
    (h0 : 0 ≤ a0 ∧ a0 ≤ 18446744073709551615) (h4 : 0 ≤ a4 ∧ a4 ≤ 255) (h5 : 0 ≤ a5 ∧ a5 ≤ 255) (h6 : 0 ≤ a6 ∧ a6 ≤ 255) (h7 : 0 ≤ a7 ∧ a7 ≤ 255) (a : List (List Int)) (ha : scullerlaw12_Arena.f K l1 a2 a3 = some a) (hA : Aok a) :
    Calls Try.prog 6 #[.int .u64 a0, .slice A1 l1.length c1, .int .u8 a2, .int .u8 a3, .int .u8 a4, .int .u8 a5, .int .u8 a6, .int .u8 a7] w fun e w' => e = .returned (.bool true) ∧ Below w.heap.size w w' := by
  have HR := Aside0.mk hr1
  have HAR := Aside0.mk ha
  have HAK := Aside0.mk hA
  have HAP := Aside0.mk (aok_pos hA)
  have HKN := Aside0.mk (known12_eq K hK)
  have H0 := Aside0.mk h0
  have H4 := Aside0.mk h4
  have H5 := Aside0.mk h5
  have H6 := Aside0.mk h6
  have H7 := Aside0.mk h7
  obtain ⟨ss, hss⟩ : ∃ ss, lens a = ss := ⟨_, rfl⟩
  have hf : fitsB ss = true := by rw [← hss]; exact hA.f
  obtain ⟨Sa, hSa⟩ : ∃ Sa : Int, ((sumN (nats (manB a0 a)) : Nat) : Int) = Sa := ⟨_, rfl⟩
  have hof : mani_Of.f K a0 a = some (a0, ss, Sa, 0) := by rw [← hss, ← hSa]; exact of_ok a0 a (by rw [hss]; exact hf) K (by omega)
  have hsl : ss.length ≤ 16 := by
    have := (fitsB_iff ss).1 hf
    omega
  have HOF := Aside0.mk hof
  have HMA := Aside0.mk (show mani_Matches.f K a0 ss Sa a = some true by rw [matches_ok _ _ _ a hA.f (by omega) K (by omega) (by omega), decide_eq_true ⟨hSa.symm, hss.symm⟩])
  have HF := Aside0.mk hf
  have HSS := Aside0.mk hss
  have HSA := Aside0.mk hSa
  clear hr1 ha hA h0 h4 h5 h6 h7 hss hf hSa hof
  go_enter Try.func6, Try.ntmps6
  go_wp2_with fail
  refine (scullerlaw12_Arena.calls K A1 c1 l1 a2 a3 a _ HR.out hc1 HAR.out).mono ?_
  rintro e w1 ⟨va, rfl, hS, hb⟩
  obtain ⟨Aa, ca, ea⟩ := Kd.R_slice (Kd.S_R hS)
  subst ea
  have HCA := Aside0.mk (Kd.R_reads' (Kd.S_R hS)).2.2
  have HLA := Aside0.mk (Kd.R_reads' (Kd.S_R hS)).2.1
  have HB := Aside0.mk hb
  clear hS hb
  go_wp2_with fail
  refine (mani_Of.calls K a0 Aa ca a a0 ss Sa 0 _ HCA.out HLA.out HOF.out).mono ?_
  rintro e w2 ⟨vm, rfl, hR, hb⟩
  obtain ⟨Am, cm, em⟩ := Kd.R_slice hR
  subst em
  have HCM := Aside0.mk (Kd.R_reads' hR).2.2
  have HLM := Aside0.mk (Kd.R_reads' hR).2.1
  have n0_ := Aside0.mk (Kd.C_below HCA.out hb)
  have n1_ := Aside0.mk (below_step HB.out hb)
  clear hR hb HCA HB
  have HCA := n0_
  have HB := n1_
  clear n0_ n1_
  go_wp2_with fail
  have HTA := Aside0.mk (blk_new w2 (.cells #[.int .u64 a0, .slice Am ss.length cm, .int .u32 Sa] 45))
  have n0_ := Aside0.mk (Kd.C_alloc HCA.out (.cells #[.int .u64 a0, .slice Am ss.length cm, .int .u32 Sa] 45))
  have n1_ := Aside0.mk (below_alloc HB.out (.cells #[.int .u64 a0, .slice Am ss.length cm, .int .u32 Sa] 45))
  have n2_ := Aside0.mk (Kd.C_alloc HCM.out (.cells #[.int .u64 a0, .slice Am ss.length cm, .int .u32 Sa] 45))
  clear HCA HB HCM
  have HCA := n0_
  have HB := n1_
  have HCM := n2_
  clear n0_ n1_ n2_
  generalize w2.alloc (.cells #[.int .u64 a0, .slice Am ss.length cm, .int .u32 Sa] 45) = wA at HTA HCA HB HCM ⊢
  refine (scullerlaw12_Arena.calls K A1 c1 l1 a2 a3 a _ (Kd.C_below HR.out HB.out) hc1 HAR.out).mono ?_
  rintro e w3 ⟨vb, rfl, hS, hb⟩
  have HSB := Aside0.mk hS
  have HX := Aside0.mk hb
  clear hS hb
  obtain ⟨gb, cb, eb, hgb1, hgb2, _⟩ := Kd.S_form HSB.out HAP.out
  subst eb
  have HGB := Aside0.mk (And.intro hgb1 hgb2)
  clear hgb1 hgb2
  obtain ⟨gm, hgm⟩ : ∃ gm, w2.heap.size = gm := ⟨_, rfl⟩
  rw [hgm] at HTA ⊢
  clear hgm
  have h7 := H7.out
  have h3 : a7 % 3 = 0 ∨ a7 % 3 = 1 ∨ a7 % 3 = 2 := by omega
  have HT3 : Aside0 (Int.tmod a7 3 = a7 % 3) := ⟨Int.tmod_eq_emod_of_nonneg h7.1⟩
  clear h7
  rcases h3 with h3 | h3 | h3
  · have ht3 := HT3.out.trans h3
    go_wp2_with fail
    obtain ⟨Sb, hSb⟩ : ∃ Sb : Int, ((sumN (nats (manB (IntKind.u64.wrap (a0 + 1)) a)) : Nat) : Int) = Sb := ⟨_, rfl⟩
    have HOB := Aside0.mk (show mani_Of.f K (IntKind.u64.wrap (a0 + 1)) a = some (IntKind.u64.wrap (a0 + 1), ss, Sb, 0) by rw [← HSS.out, ← hSb]; exact of_ok _ a HAK.out.f K (by omega))
    have HSM := Aside0.mk (show mani_Same.f K a0 ss Sa (IntKind.u64.wrap (a0 + 1)) ss Sb = some false by
      rw [maniSame_eq _ _ _ _ _ _ (by omega) K (by omega), decide_eq_false]
      rintro ⟨h, _⟩
      rw [u64w] at h
      have h0 := H0.out
      omega)
    have HMB := Aside0.mk (show mani_Matches.f K a0 ss Sa a = some true by rw [matches_ok _ _ _ a HAK.out.f (by omega) K (by omega) (by omega), decide_eq_true ⟨HSA.out.symm, HSS.out.symm⟩])
    have HCB := Aside0.mk (Kd.R_reads' (Kd.S_R HSB.out)).2.2
    have HLB := Aside0.mk (Kd.R_reads' (Kd.S_R HSB.out)).2.1
    clear HSB HGB hSb
    refine (of_at K _ _ _ _ _ rfl _ _ _ _ _ HCB.out HLB.out HOB.out).mono ?_
    rintro e w7 ⟨vn, rfl, hR, hb⟩
    obtain ⟨An2, cn2, en⟩ := Kd.R_slice hR
    subst en
    have HCN := Aside0.mk (Kd.R_reads' hR).2.2
    have HLN := Aside0.mk (Kd.R_reads' hR).2.1
    have n0_ := Aside0.mk (Kd.C_below HCB.out hb)
    have n1_ := Aside0.mk (below_step HX.out hb)
    clear hR hb HCB HX
    have HCB := n0_
    have HX := n1_
    clear n0_ n1_
    go_wp2_with fail
    have HTN := Aside0.mk (blk_new w7 (.cells #[.int .u64 (IntKind.u64.wrap (a0 + 1)), .slice An2 ss.length cn2, .int .u32 Sb] 45))
    have n0_ := Aside0.mk (Kd.C_alloc HCB.out (.cells #[.int .u64 (IntKind.u64.wrap (a0 + 1)), .slice An2 ss.length cn2, .int .u32 Sb] 45))
    have n1_ := Aside0.mk (below_alloc HX.out (.cells #[.int .u64 (IntKind.u64.wrap (a0 + 1)), .slice An2 ss.length cn2, .int .u32 Sb] 45))
    have n2_ := Aside0.mk (Kd.C_alloc HCN.out (.cells #[.int .u64 (IntKind.u64.wrap (a0 + 1)), .slice An2 ss.length cn2, .int .u32 Sb] 45))
    clear HCB HX HCN
    have HCB := n0_
    have HX := n1_
    have HCN := n2_
    clear n0_ n1_ n2_
    generalize w7.alloc (.cells #[.int .u64 (IntKind.u64.wrap (a0 + 1)), .slice An2 ss.length cn2, .int .u32 Sb] 45) = wB at HTN HCB HX HCN ⊢
    refine (scullerlaw12_known.calls K true _ HKN.out).mono ?_
    rintro e w8 ⟨rfl, hb⟩
    have HY := Aside0.mk hb
    clear hb
    have hm := blk_below (blk_below HTA.out HX.out) HY.out
    have d0 : w8.cell? ⟨gm, 0, none⟩ = some (.int .u64 a0) := (blk_cell hm 0).trans rfl
    have d1 : w8.cell? ⟨gm, 1, none⟩ = some (.slice Am ss.length cm) := (blk_cell hm 1).trans rfl
    have d2 : w8.cell? ⟨gm, 2, none⟩ = some (.int .u32 Sa) := (blk_cell hm 2).trans rfl
    have hn := blk_below HTN.out HY.out
    have e0 : w8.cell? ⟨w7.heap.size, 0, none⟩ = some (.int .u64 (IntKind.u64.wrap (a0 + 1))) := (blk_cell hn 0).trans rfl
    have e1 : w8.cell? ⟨w7.heap.size, 1, none⟩ = some (.slice An2 ss.length cn2) := (blk_cell hn 1).trans rfl
    have e2_ : w8.cell? ⟨w7.heap.size, 2, none⟩ = some (.int .u32 Sb) := (blk_cell hn 2).trans rfl
    clear hm hn
    go_wp2_with fail
    refine (mani_Same.calls K _ _ _ _ _ _ _ _ _ _ _ _ (Kd.C_below (Kd.C_below HCM.out HX.out) HY.out) HLM.out (Kd.C_below HCN.out HY.out) HLN.out HSM.out).mono ?_
    rintro e w9 ⟨rfl, hb⟩
    have n0_ := Aside0.mk (below_step HY.out hb)
    clear HY hb d0 d1 d2 e0 e1 e2_
    have HY := n0_
    clear n0_
    have hm := blk_below (blk_below HTA.out HX.out) HY.out
    have d0 : w9.cell? ⟨gm, 0, none⟩ = some (.int .u64 a0) := (blk_cell hm 0).trans rfl
    have d1 : w9.cell? ⟨gm, 1, none⟩ = some (.slice Am ss.length cm) := (blk_cell hm 1).trans rfl
    have d2 : w9.cell? ⟨gm, 2, none⟩ = some (.int .u32 Sa) := (blk_cell hm 2).trans rfl
    have hn := blk_below HTN.out HY.out
    have e0 : w9.cell? ⟨w7.heap.size, 0, none⟩ = some (.int .u64 (IntKind.u64.wrap (a0 + 1))) := (blk_cell hn 0).trans rfl
    have e1 : w9.cell? ⟨w7.heap.size, 1, none⟩ = some (.slice An2 ss.length cn2) := (blk_cell hn 1).trans rfl
    have e2_ : w9.cell? ⟨w7.heap.size, 2, none⟩ = some (.int .u32 Sb) := (blk_cell hn 2).trans rfl
    clear hm hn
    go_wp2_with fail
    refine (mani_Matches.calls K _ _ _ _ _ _ _ _ _ _ (Kd.C_below (Kd.C_below HCM.out HX.out) HY.out) HLM.out (Kd.C_below (Kd.C_below HCA.out HX.out) HY.out) HLA.out HMA.out).mono ?_
    rintro e w10 ⟨rfl, hb⟩
    have n0_ := Aside0.mk (below_step HY.out hb)
    clear HY hb d0 d1 d2 e0 e1 e2_
    have HY := n0_
    clear n0_
    have hm := blk_below (blk_below HTA.out HX.out) HY.out
    have d0 : w10.cell? ⟨gm, 0, none⟩ = some (.int .u64 a0) := (blk_cell hm 0).trans rfl
    have d1 : w10.cell? ⟨gm, 1, none⟩ = some (.slice Am ss.length cm) := (blk_cell hm 1).trans rfl
    have d2 : w10.cell? ⟨gm, 2, none⟩ = some (.int .u32 Sa) := (blk_cell hm 2).trans rfl
    have hn := blk_below HTN.out HY.out
    have e0 : w10.cell? ⟨w7.heap.size, 0, none⟩ = some (.int .u64 (IntKind.u64.wrap (a0 + 1))) := (blk_cell hn 0).trans rfl
    have e1 : w10.cell? ⟨w7.heap.size, 1, none⟩ = some (.slice An2 ss.length cn2) := (blk_cell hn 1).trans rfl
    have e2_ : w10.cell? ⟨w7.heap.size, 2, none⟩ = some (.int .u32 Sb) := (blk_cell hn 2).trans rfl
    clear hm hn
    go_wp2_with fail
    refine (matches_at K _ _ _ _ _ _ _ _ _ rfl _ _ (Kd.C_below (Kd.C_below HCM.out HX.out) HY.out) HLM.out (Kd.C_below HCB.out HY.out) HLB.out HMB.out).mono ?_
    rintro e w11 ⟨rfl, hb⟩
    have n0_ := Aside0.mk (below_step HY.out hb)
    clear HY hb d0 d1 d2 e0 e1 e2_
    have HY := n0_
    clear n0_
    go_wp2
    go_ret
    exact ⟨by first | rfl | simp [ht3], below_step (below_step HB.out HX.out) HY.out⟩
  · have ht3 := HT3.out.trans h3
    have hj : (wrap64 a4).tmod (a.length : Int) = ((a4 % (a.length : Int)).toNat : Int) := by
      have h4 := H4.out
      rw [show wrap64 a4 = a4 from IntWalk.wrap64_in _ (by omega), Int.tmod_eq_emod_of_nonneg h4.1, Int.toNat_of_nonneg (Int.emod_nonneg _ (by have := HAP.out; omega))]
    have hjl : (a4 % (a.length : Int)).toNat < a.length := by
      have := Int.emod_lt_of_pos a4 (show (0 : Int) < (a.length : Int) by have := HAP.out; omega)
      have := Int.emod_nonneg a4 (show (a.length : Int) ≠ 0 by have := HAP.out; omega)
      omega
    generalize (a4 % (a.length : Int)).toNat = j at hj hjl
    obtain ⟨oki, ce, hcl, hM, hcc, hok, hbk⟩ := Kd.S_borrow HSB.out ([] : List Int) (j : Int) (by omega) (by omega)
    obtain ⟨ve, rfl, hre⟩ := hM
    have hx := hcc 0 ve rfl
    obtain ⟨Ae, ne, ee⟩ := Kd.R_slice hre
    subst ee
    rw [Int.toNat_natCast] at hx hre hbk
    have hx1 : w3.cell? ⟨gb, j, none⟩ = some (.slice Ae (a.getD j []).length ne) := by
      have h_ : w3.cell? ((⟨gb, 0, none⟩ : Addr).add (j * 1 + 0)) = some (.slice Ae (a.getD j []).length ne) := hx
      rw [add_at] at h_
      simpa using h_
    obtain ⟨x, hxe⟩ : ∃ x, a.getD j [] = x := ⟨_, rfl⟩
    rw [hxe] at hx1 hre
    have HX1 := Aside0.mk hx1
    have HRE := Aside0.mk hre
    have HXE := Aside0.mk hxe
    clear hcc hx hx1 hre hbk hok hcl hxe
    have hjb : (0 : Int) ≤ (j : Int) ∧ (j : Int) < (a.length : Int) := by omega
    rcases Nat.eq_zero_or_pos x.length with hx0 | hx0
    · have hx00 : x = [] := List.length_eq_zero_iff.1 hx0
      subst hx00
      have hx1 := HX1.out
      go_wp2_with fail
      refine (scullerlaw12_known.calls K true w3 HKN.out).mono ?_
      rintro e w4 ⟨rfl, hb⟩
      have HB4 := Aside0.mk (below_step (below_step HB.out HX.out) hb)
      clear hb
      go_wp2
      go_ret
      exact ⟨rfl, HB4.out⟩
    · obtain ⟨ge, ne', ee, hge1, hge2, _⟩ := Kd.R_form HRE.out hx0
      injection ee with e1 e2 e3
      subst e1 e3
      have hk : (wrap64 a5).tmod (x.length : Int) = ((a5 % (x.length : Int)).toNat : Int) := by
        have h5 := H5.out
        rw [IntWalk.wrap64_in _ (by omega), Int.tmod_eq_emod_of_nonneg h5.1, Int.toNat_of_nonneg (Int.emod_nonneg _ (by omega))]
      have hkl : (a5 % (x.length : Int)).toNat < x.length := by
        have := Int.emod_lt_of_pos a5 (show (0 : Int) < (x.length : Int) by omega)
        have := Int.emod_nonneg a5 (show (x.length : Int) ≠ 0 by omega)
        omega
      generalize (a5 % (x.length : Int)).toNat = k at hk hkl
      obtain ⟨ck, hckl, hMk, hck, hfr⟩ := Kd.R_elem HRE.out (0 : Int) (k : Int) (by omega) (by omega)
      rw [Int.toNat_natCast] at hMk
      have hck0 := hck 0 (.int .u64 (x.getD k 0)) (by rw [show ck = [.int .u64 (x.getD k 0)] from hMk]; rfl)
      have hck1 : w3.cell? ⟨ge, k, none⟩ = some (.int .u64 (x.getD k 0)) := by
        have h_ : w3.cell? ⟨ge, (k : Int).toNat * 1 + 0, none⟩ = some (.int .u64 (x.getD k 0)) := hck0
        simpa using h_
      have hfr1 : w3.frozen? ⟨ge, k, none⟩ = false := by
        have h_ : w3.frozen? ⟨ge, (k : Int).toNat * 1 + 0, none⟩ = false := hfr 0
        simpa using h_
      clear hck hckl hMk hck0 hfr
      have hx1 := HX1.out
      have hkb : (0 : Int) ≤ (k : Int) ∧ (k : Int) < (x.length : Int) := by omega
      have hxn : ((x.length : Int) == 0) = false := beq_eq_false_iff_ne.2 (by omega)
      have hxn2 : ¬ x = [] := by rintro rfl; exact absurd hx0 (by simp)
      go_wp2_with fail
      go_still_tail 21, (by kernel_rfl)
      change wpList _ _ _ _ _ w3.drew
      have HSB5 := Aside0.mk (Kd.S_drew HSB.out)
      have HX5 := Aside0.mk (below_drew HX.out)
      have hck5 : w3.drew.cell? ⟨ge, k, none⟩ = some (.int .u64 (x.getD k 0)) := hck1
      have hfr5 : w3.drew.frozen? ⟨ge, k, none⟩ = false := hfr1
      have HX15 : Aside0 (w3.drew.cell? ⟨gb, j, none⟩ = some (.slice (some ⟨ge, 0, none⟩) x.length ne)) := HX1
      clear HSB HX HRE hck1 hfr1 HX1 hx1
      generalize w3.drew = w5 at HSB5 HX5 hck5 hfr5 HX15 ⊢
      go_wp2_with fail
      clear hck5 hfr5
      have hgk : x[k]'hkl = x.getD k 0 := by rw [List.getD_eq_getElem?_getD, List.getElem?_eq_getElem hkl]; rfl
      have hxu : 0 ≤ x.getD k 0 ∧ x.getD k 0 ≤ 18446744073709551615 := by
        rw [← hgk]
        refine HAK.out.u x ?_ _ (List.getElem_mem hkl)
        rw [← HXE.out, List.getD_eq_getElem?_getD, List.getElem?_eq_getElem hjl]
        exact List.getElem_mem hjl
      rw [hgk, word_xor _ _ _ hxu H6.out H5.out]
      obtain ⟨oki5, ce5, hcl5, hM5, hcc5, hok5, hbk5⟩ := Kd.S_borrow HSB5.out ([] : List Int) (j : Int) (by omega) (by omega)
      obtain ⟨ve5, rfl, hre5⟩ := hM5
      have hx5 := hcc5 0 ve5 rfl
      rw [Int.toNat_natCast] at hx5 hre5 hbk5
      have hx51 : w5.cell? ⟨gb, j, none⟩ = some ve5 := by
        have h_ : w5.cell? ((⟨gb, 0, none⟩ : Addr).add (j * 1 + 0)) = some ve5 := hx5
        rw [add_at] at h_
        simpa using h_
      obtain rfl := Option.some.inj (hx51.symm.trans HX15.out)
      rw [HXE.out] at hre5
      obtain ⟨q, hq⟩ : ∃ q, (a5 % 8).toNat = q := ⟨_, rfl⟩
      obtain ⟨v, hv⟩ : ∃ v, a6.toNat = v := ⟨_, rfl⟩
      obtain ⟨y, hy⟩ : ∃ y, (x.getD k 0).toNat = y := ⟨_, rfl⟩
      rw [hq, hv, hy]
      have HP := Kd.R_putg hre5 (k : Int) (((y ^^^ v <<< (8 * q) : Nat) : Int))
      rw [Int.toNat_natCast] at HP
      have HSN := hbk5 HP.2 (fun k_ e_ => by injection e_ with e_; subst e_; exact hre5.1 _ rfl) (x' := x.set k ((y ^^^ v <<< (8 * q) : Nat) : Int)) ⟨_, rfl, HP.1⟩
      have hxy : (a.getD j []).getD k 0 = (y : Int) := by rw [HXE.out, ← hy, Int.toNat_of_nonneg hxu.1]
      have HTB := tell_byte hjl (k := k) (by rw [HXE.out]; exact hkl) a0 y v q hxy (by have := H6.out; omega) (by omega)
      rw [HXE.out] at HTB
      obtain ⟨b, hb_⟩ : ∃ b, a.set j (x.set k ((y ^^^ v <<< (8 * q) : Nat) : Int)) = b := ⟨_, rfl⟩
      rw [hb_] at HTB HSN
      have hbl : b.length = a.length := by rw [← hb_, List.length_set]
      have HXN := HX5.out.setCell (p := ⟨ge, k, none⟩) (Kd.R_base hre5 ge rfl) (.int .u64 ((y ^^^ v <<< (8 * q) : Nat) : Int))
      have HCB := Aside0.mk (Kd.R_reads' (Kd.S_R HSN)).2.2
      have HLB := Aside0.mk (show b.length ≤ cb by rw [hbl]; exact (Kd.R_reads' (Kd.S_R HSN)).2.1)
      have HNB := Aside0.mk hbl
      have HX := Aside0.mk HXN
      clear HSN HXN HP hbk5 hre5 hx5 hx51 hcc5 hok5 HSB5 HX5 HX15
      generalize w5.setCell ⟨ge, k, none⟩ (.int .u64 ((y ^^^ v <<< (8 * q) : Nat) : Int)) = w6 at HCB HX ⊢
      obtain ⟨Sb, hSb⟩ : ∃ Sb : Int, ((sumN (nats (manB a0 b)) : Nat) : Int) = Sb := ⟨_, rfl⟩
      have hlb : lens b = ss := HTB.1.trans HSS.out
      have hfb : fitsB (lens b) = true := by rw [hlb]; exact HF.out
      have hSS : (Sa = Sb) ↔ a6 = 0 := by
        rw [← HSA.out, ← hSb, Int.natCast_inj, eq_comm, HTB.2, ← hv]
        have := H6.out
        omega
      have HOB := Aside0.mk (show mani_Of.f K a0 b = some (a0, ss, Sb, 0) by rw [← hlb, ← hSb]; exact of_ok a0 b hfb K (by omega))
      have HSM := Aside0.mk (show mani_Same.f K a0 ss Sa a0 ss Sb = some (a6 == 0) by
        rw [maniSame_eq _ _ _ _ _ _ (by omega) K (by omega)]
        congr 1
        rw [Bool.eq_iff_iff]
        simp [hSS])
      have HMB := Aside0.mk (show mani_Matches.f K a0 ss Sa b = some (a6 == 0) by
        rw [matches_ok _ _ _ b hfb (by omega) K (by omega) (by omega), hSb, hlb]
        congr 1
        rw [Bool.eq_iff_iff]
        simp [hSS])
      clear hgk hxu hxy HTB hb_ hbl hSb hlb hfb hSS hq hv hy
      rcases hz : (a6 == 0) with _ | _ <;> rw [hz] at HSM HMB
      · refine (of_at K _ _ _ _ _ HNB.out _ _ _ _ _ HCB.out HLB.out HOB.out).mono ?_
        rintro e w7 ⟨vn, rfl, hR, hb⟩
        obtain ⟨An2, cn2, en⟩ := Kd.R_slice hR
        subst en
        have HCN := Aside0.mk (Kd.R_reads' hR).2.2
        have HLN := Aside0.mk (Kd.R_reads' hR).2.1
        have n0_ := Aside0.mk (Kd.C_below HCB.out hb)
        have n1_ := Aside0.mk (below_step HX.out hb)
        clear hR hb HCB HX
        have HCB := n0_
        have HX := n1_
        clear n0_ n1_
        go_wp2_with fail
        have HTN := Aside0.mk (blk_new w7 (.cells #[.int .u64 a0, .slice An2 ss.length cn2, .int .u32 Sb] 45))
        have n0_ := Aside0.mk (Kd.C_alloc HCB.out (.cells #[.int .u64 a0, .slice An2 ss.length cn2, .int .u32 Sb] 45))
        have n1_ := Aside0.mk (below_alloc HX.out (.cells #[.int .u64 a0, .slice An2 ss.length cn2, .int .u32 Sb] 45))
        have n2_ := Aside0.mk (Kd.C_alloc HCN.out (.cells #[.int .u64 a0, .slice An2 ss.length cn2, .int .u32 Sb] 45))
        clear HCB HX HCN
        have HCB := n0_
        have HX := n1_
        have HCN := n2_
        clear n0_ n1_ n2_
        generalize w7.alloc (.cells #[.int .u64 a0, .slice An2 ss.length cn2, .int .u32 Sb] 45) = wB at HTN HCB HX HCN ⊢
        refine (scullerlaw12_known.calls K true _ HKN.out).mono ?_
        rintro e w8 ⟨rfl, hb⟩
        have HY := Aside0.mk hb
        clear hb
        have hm := blk_below (blk_below HTA.out HX.out) HY.out
        have d0 : w8.cell? ⟨gm, 0, none⟩ = some (.int .u64 a0) := (blk_cell hm 0).trans rfl
        have d1 : w8.cell? ⟨gm, 1, none⟩ = some (.slice Am ss.length cm) := (blk_cell hm 1).trans rfl
        have d2 : w8.cell? ⟨gm, 2, none⟩ = some (.int .u32 Sa) := (blk_cell hm 2).trans rfl
        have hn := blk_below HTN.out HY.out
        have e0 : w8.cell? ⟨w7.heap.size, 0, none⟩ = some (.int .u64 a0) := (blk_cell hn 0).trans rfl
        have e1 : w8.cell? ⟨w7.heap.size, 1, none⟩ = some (.slice An2 ss.length cn2) := (blk_cell hn 1).trans rfl
        have e2_ : w8.cell? ⟨w7.heap.size, 2, none⟩ = some (.int .u32 Sb) := (blk_cell hn 2).trans rfl
        clear hm hn
        go_wp2_with fail
        refine (mani_Same.calls K _ _ _ _ _ _ _ _ _ _ _ _ (Kd.C_below (Kd.C_below HCM.out HX.out) HY.out) HLM.out (Kd.C_below HCN.out HY.out) HLN.out HSM.out).mono ?_
        rintro e w9 ⟨rfl, hb⟩
        have n0_ := Aside0.mk (below_step HY.out hb)
        clear HY hb d0 d1 d2 e0 e1 e2_
        have HY := n0_
        clear n0_
        have hm := blk_below (blk_below HTA.out HX.out) HY.out
        have d0 : w9.cell? ⟨gm, 0, none⟩ = some (.int .u64 a0) := (blk_cell hm 0).trans rfl
        have d1 : w9.cell? ⟨gm, 1, none⟩ = some (.slice Am ss.length cm) := (blk_cell hm 1).trans rfl
        have d2 : w9.cell? ⟨gm, 2, none⟩ = some (.int .u32 Sa) := (blk_cell hm 2).trans rfl
        have hn := blk_below HTN.out HY.out
        have e0 : w9.cell? ⟨w7.heap.size, 0, none⟩ = some (.int .u64 a0) := (blk_cell hn 0).trans rfl
        have e1 : w9.cell? ⟨w7.heap.size, 1, none⟩ = some (.slice An2 ss.length cn2) := (blk_cell hn 1).trans rfl
        have e2_ : w9.cell? ⟨w7.heap.size, 2, none⟩ = some (.int .u32 Sb) := (blk_cell hn 2).trans rfl
        clear hm hn
        go_wp2_with fail
        refine (mani_Matches.calls K _ _ _ _ _ _ _ _ _ _ (Kd.C_below (Kd.C_below HCM.out HX.out) HY.out) HLM.out (Kd.C_below (Kd.C_below HCA.out HX.out) HY.out) HLA.out HMA.out).mono ?_
        rintro e w10 ⟨rfl, hb⟩
        have n0_ := Aside0.mk (below_step HY.out hb)
        clear HY hb d0 d1 d2 e0 e1 e2_
        have HY := n0_
        clear n0_
        have hm := blk_below (blk_below HTA.out HX.out) HY.out
        have d0 : w10.cell? ⟨gm, 0, none⟩ = some (.int .u64 a0) := (blk_cell hm 0).trans rfl
        have d1 : w10.cell? ⟨gm, 1, none⟩ = some (.slice Am ss.length cm) := (blk_cell hm 1).trans rfl
        have d2 : w10.cell? ⟨gm, 2, none⟩ = some (.int .u32 Sa) := (blk_cell hm 2).trans rfl
        have hn := blk_below HTN.out HY.out
        have e0 : w10.cell? ⟨w7.heap.size, 0, none⟩ = some (.int .u64 a0) := (blk_cell hn 0).trans rfl
        have e1 : w10.cell? ⟨w7.heap.size, 1, none⟩ = some (.slice An2 ss.length cn2) := (blk_cell hn 1).trans rfl
        have e2_ : w10.cell? ⟨w7.heap.size, 2, none⟩ = some (.int .u32 Sb) := (blk_cell hn 2).trans rfl
        clear hm hn
        go_wp2_with fail
        refine (matches_at K _ _ _ _ _ _ _ _ _ HNB.out _ _ (Kd.C_below (Kd.C_below HCM.out HX.out) HY.out) HLM.out (Kd.C_below HCB.out HY.out) HLB.out HMB.out).mono ?_
        rintro e w11 ⟨rfl, hb⟩
        have n0_ := Aside0.mk (below_step HY.out hb)
        clear HY hb d0 d1 d2 e0 e1 e2_
        have HY := n0_
        clear n0_
        go_wp2
        go_ret
        exact ⟨by first | rfl | simp [ht3], below_step (below_step HB.out HX.out) HY.out⟩
      · refine (of_at K _ _ _ _ _ HNB.out _ _ _ _ _ HCB.out HLB.out HOB.out).mono ?_
        rintro e w7 ⟨vn, rfl, hR, hb⟩
        obtain ⟨An2, cn2, en⟩ := Kd.R_slice hR
        subst en
        have HCN := Aside0.mk (Kd.R_reads' hR).2.2
        have HLN := Aside0.mk (Kd.R_reads' hR).2.1
        have n0_ := Aside0.mk (Kd.C_below HCB.out hb)
        have n1_ := Aside0.mk (below_step HX.out hb)
        clear hR hb HCB HX
        have HCB := n0_
        have HX := n1_
        clear n0_ n1_
        go_wp2_with fail
        have HTN := Aside0.mk (blk_new w7 (.cells #[.int .u64 a0, .slice An2 ss.length cn2, .int .u32 Sb] 45))
        have n0_ := Aside0.mk (Kd.C_alloc HCB.out (.cells #[.int .u64 a0, .slice An2 ss.length cn2, .int .u32 Sb] 45))
        have n1_ := Aside0.mk (below_alloc HX.out (.cells #[.int .u64 a0, .slice An2 ss.length cn2, .int .u32 Sb] 45))
        have n2_ := Aside0.mk (Kd.C_alloc HCN.out (.cells #[.int .u64 a0, .slice An2 ss.length cn2, .int .u32 Sb] 45))
        clear HCB HX HCN
        have HCB := n0_
        have HX := n1_
        have HCN := n2_
        clear n0_ n1_ n2_
        generalize w7.alloc (.cells #[.int .u64 a0, .slice An2 ss.length cn2, .int .u32 Sb] 45) = wB at HTN HCB HX HCN ⊢
        refine (scullerlaw12_known.calls K true _ HKN.out).mono ?_
        rintro e w8 ⟨rfl, hb⟩
        have HY := Aside0.mk hb
        clear hb
        have hm := blk_below (blk_below HTA.out HX.out) HY.out
        have d0 : w8.cell? ⟨gm, 0, none⟩ = some (.int .u64 a0) := (blk_cell hm 0).trans rfl
        have d1 : w8.cell? ⟨gm, 1, none⟩ = some (.slice Am ss.length cm) := (blk_cell hm 1).trans rfl
        have d2 : w8.cell? ⟨gm, 2, none⟩ = some (.int .u32 Sa) := (blk_cell hm 2).trans rfl
        have hn := blk_below HTN.out HY.out
        have e0 : w8.cell? ⟨w7.heap.size, 0, none⟩ = some (.int .u64 a0) := (blk_cell hn 0).trans rfl
        have e1 : w8.cell? ⟨w7.heap.size, 1, none⟩ = some (.slice An2 ss.length cn2) := (blk_cell hn 1).trans rfl
        have e2_ : w8.cell? ⟨w7.heap.size, 2, none⟩ = some (.int .u32 Sb) := (blk_cell hn 2).trans rfl
        clear hm hn
        go_wp2_with fail
        refine (mani_Same.calls K _ _ _ _ _ _ _ _ _ _ _ _ (Kd.C_below (Kd.C_below HCM.out HX.out) HY.out) HLM.out (Kd.C_below HCN.out HY.out) HLN.out HSM.out).mono ?_
        rintro e w9 ⟨rfl, hb⟩
        have n0_ := Aside0.mk (below_step HY.out hb)
        clear HY hb d0 d1 d2 e0 e1 e2_
        have HY := n0_
        clear n0_
        have hm := blk_below (blk_below HTA.out HX.out) HY.out
        have d0 : w9.cell? ⟨gm, 0, none⟩ = some (.int .u64 a0) := (blk_cell hm 0).trans rfl
        have d1 : w9.cell? ⟨gm, 1, none⟩ = some (.slice Am ss.length cm) := (blk_cell hm 1).trans rfl
        have d2 : w9.cell? ⟨gm, 2, none⟩ = some (.int .u32 Sa) := (blk_cell hm 2).trans rfl
        have hn := blk_below HTN.out HY.out
        have e0 : w9.cell? ⟨w7.heap.size, 0, none⟩ = some (.int .u64 a0) := (blk_cell hn 0).trans rfl
        have e1 : w9.cell? ⟨w7.heap.size, 1, none⟩ = some (.slice An2 ss.length cn2) := (blk_cell hn 1).trans rfl
        have e2_ : w9.cell? ⟨w7.heap.size, 2, none⟩ = some (.int .u32 Sb) := (blk_cell hn 2).trans rfl
        clear hm hn
        go_wp2_with fail
        refine (mani_Matches.calls K _ _ _ _ _ _ _ _ _ _ (Kd.C_below (Kd.C_below HCM.out HX.out) HY.out) HLM.out (Kd.C_below (Kd.C_below HCA.out HX.out) HY.out) HLA.out HMA.out).mono ?_
        rintro e w10 ⟨rfl, hb⟩
        have n0_ := Aside0.mk (below_step HY.out hb)
        clear HY hb d0 d1 d2 e0 e1 e2_
        have HY := n0_
        clear n0_
        have hm := blk_below (blk_below HTA.out HX.out) HY.out
        have d0 : w10.cell? ⟨gm, 0, none⟩ = some (.int .u64 a0) := (blk_cell hm 0).trans rfl
        have d1 : w10.cell? ⟨gm, 1, none⟩ = some (.slice Am ss.length cm) := (blk_cell hm 1).trans rfl
        have d2 : w10.cell? ⟨gm, 2, none⟩ = some (.int .u32 Sa) := (blk_cell hm 2).trans rfl
        have hn := blk_below HTN.out HY.out
        have e0 : w10.cell? ⟨w7.heap.size, 0, none⟩ = some (.int .u64 a0) := (blk_cell hn 0).trans rfl
        have e1 : w10.cell? ⟨w7.heap.size, 1, none⟩ = some (.slice An2 ss.length cn2) := (blk_cell hn 1).trans rfl
        have e2_ : w10.cell? ⟨w7.heap.size, 2, none⟩ = some (.int .u32 Sb) := (blk_cell hn 2).trans rfl
        clear hm hn
        go_wp2_with fail
        refine (matches_at K _ _ _ _ _ _ _ _ _ HNB.out _ _ (Kd.C_below (Kd.C_below HCM.out HX.out) HY.out) HLM.out (Kd.C_below HCB.out HY.out) HLB.out HMB.out).mono ?_
        rintro e w11 ⟨rfl, hb⟩
        have n0_ := Aside0.mk (below_step HY.out hb)
        clear HY hb d0 d1 d2 e0 e1 e2_
        have HY := n0_
        clear n0_
        go_wp2
        go_ret
        exact ⟨by first | rfl | simp [ht3], below_step (below_step HB.out HX.out) HY.out⟩
  · have ht3 := HT3.out.trans h3
    have HCB0 := Aside0.mk (Kd.S_R HSB.out)
    by_cases hl16 : a.length ≥ 16
    · have hl16' : (a.length : Int) ≥ 16 := by omega
      go_wp2_with fail
      refine (scullerlaw12_known.calls K true w3 HKN.out).mono ?_
      rintro e w4 ⟨rfl, hb⟩
      have HB4 := Aside0.mk (below_step (below_step HB.out HX.out) hb)
      clear hb
      go_wp2
      go_ret
      exact ⟨rfl, HB4.out⟩
    · have hl16' : ¬ (a.length : Int) ≥ 16 := by omega
      have hl1 := HSS.out
      have hfb : fitsB (lens (a ++ [[]])) = true := by
        rw [fitsB_iff, lens_append]
        have hq := (fitsB_iff _).1 HAK.out.f
        change 1 ≤ (lens a).length ∧ (lens a).length ≤ 16 ∧ 1 ≤ (lens a).getD 0 0 ∧ (∀ x ∈ lens a, 0 ≤ x) ∧ sumI (lens a) ≤ 4096 at hq
        obtain ⟨h1, h2, h3, h4, h5⟩ := hq
        have h6 : (lens a).length = a.length := by unfold lens; rw [List.length_map]
        refine ⟨by rw [List.length_append]; omega, ?_, ?_, ?_, ?_⟩
        · rw [List.length_append, h6]; simp [lens]; omega
        · rw [List.getD_eq_getElem?_getD, List.getElem?_append_left (by omega), ← List.getD_eq_getElem?_getD]; exact h3
        · intro x hx
          rcases List.mem_append.1 hx with hx | hx
          · exact h4 x hx
          · simp [lens] at hx; omega
        · rw [sumI_append]; simp [lens, sumI]; exact h5
      have hne : ss ≠ lens (a ++ [[]]) := by
        rw [← hl1, lens_append]
        intro h
        have := congrArg List.length h
        simp [lens] at this
      obtain ⟨sb, hsb⟩ : ∃ sb, lens (a ++ [[]]) = sb := ⟨_, rfl⟩
      obtain ⟨Sb, hSb⟩ : ∃ Sb : Int, ((sumN (nats (manB a0 (a ++ [[]]))) : Nat) : Int) = Sb := ⟨_, rfl⟩
      have HOB := Aside0.mk (show mani_Of.f K a0 (a ++ [[]]) = some (a0, sb, Sb, 0) by rw [← hsb, ← hSb]; exact of_ok a0 _ hfb K (by omega))
      have HSM := Aside0.mk (show mani_Same.f K a0 ss Sa a0 sb Sb = some false by
        rw [maniSame_eq _ _ _ _ _ _ (by omega) K (by omega), decide_eq_false]
        rintro ⟨_, _, h⟩
        exact hne (h.trans hsb.symm))
      have HMB := Aside0.mk (show mani_Matches.f K a0 ss Sa (a ++ [[]]) = some false by
        rw [matches_ok _ _ _ _ hfb (by omega) K (by omega) (by omega), decide_eq_false]
        rintro ⟨_, h⟩
        exact hne h)
      obtain ⟨b, hbb⟩ : ∃ b, a ++ [[]] = b := ⟨_, rfl⟩
      rw [hbb] at HOB HMB
      have HBE := Aside0.mk hbb
      clear hfb hne hsb hSb hl1 hbb
      go_wp2_with (at_builtin; refine Kd.R_append (Kd.slice 38 (Kd.int .u64)) (w0 := wA) wA.heap.size rfl (.tmp 48) (.tmp 49) 40 50 (.slice none 0 0) 24 rfl Try.underlying40 info50 rfl (by decide) (by omega) (.slice (some ⟨gb, 0, none⟩) a.length cb) a ([] : List Int) [.slice none 0 0] (fun _ => True) (fun _ => False) rfl rfl ⟨_, rfl, Kd.R_nil _ _ _ _ _⟩ (fun _ hk => hk.elim) (fun _ _ => trivial) HCB0.out HX.out HX.out.size ?aL ?_; (case aL => omega); intro v1 w6 ho hb hg hat; rw [HBE.out] at ho; obtain ⟨An, cn, ev⟩ := Kd.R_slice ho; subst ev; have HCB := Aside0.mk (Kd.R_reads' ho).2.2; have HLB := Aside0.mk (Kd.R_reads' ho).2.1; have HX6 := Aside0.mk hb; clear ho hb hg hat HX; have HX := HX6; clear HX6)
      clear HSB HCB0 HGB
      refine (of_at K _ _ _ _ _ rfl _ _ _ _ _ HCB.out HLB.out HOB.out).mono ?_
      rintro e w7 ⟨vn, rfl, hR, hb⟩
      obtain ⟨An2, cn2, en⟩ := Kd.R_slice hR
      subst en
      have HCN := Aside0.mk (Kd.R_reads' hR).2.2
      have HLN := Aside0.mk (Kd.R_reads' hR).2.1
      have n0_ := Aside0.mk (Kd.C_below HCB.out hb)
      have n1_ := Aside0.mk (below_step HX.out hb)
      clear hR hb HCB HX
      have HCB := n0_
      have HX := n1_
      clear n0_ n1_
      go_wp2_with fail
      have HTN := Aside0.mk (blk_new w7 (.cells #[.int .u64 a0, .slice An2 sb.length cn2, .int .u32 Sb] 45))
      have n0_ := Aside0.mk (Kd.C_alloc HCB.out (.cells #[.int .u64 a0, .slice An2 sb.length cn2, .int .u32 Sb] 45))
      have n1_ := Aside0.mk (below_alloc HX.out (.cells #[.int .u64 a0, .slice An2 sb.length cn2, .int .u32 Sb] 45))
      have n2_ := Aside0.mk (Kd.C_alloc HCN.out (.cells #[.int .u64 a0, .slice An2 sb.length cn2, .int .u32 Sb] 45))
      clear HCB HX HCN
      have HCB := n0_
      have HX := n1_
      have HCN := n2_
      clear n0_ n1_ n2_
      generalize w7.alloc (.cells #[.int .u64 a0, .slice An2 sb.length cn2, .int .u32 Sb] 45) = wB at HTN HCB HX HCN ⊢
      refine (scullerlaw12_known.calls K true _ HKN.out).mono ?_
      rintro e w8 ⟨rfl, hb⟩
      have HY := Aside0.mk hb
      clear hb
      have hm := blk_below (blk_below HTA.out HX.out) HY.out
      have d0 : w8.cell? ⟨gm, 0, none⟩ = some (.int .u64 a0) := (blk_cell hm 0).trans rfl
      have d1 : w8.cell? ⟨gm, 1, none⟩ = some (.slice Am ss.length cm) := (blk_cell hm 1).trans rfl
      have d2 : w8.cell? ⟨gm, 2, none⟩ = some (.int .u32 Sa) := (blk_cell hm 2).trans rfl
      have hn := blk_below HTN.out HY.out
      have e0 : w8.cell? ⟨w7.heap.size, 0, none⟩ = some (.int .u64 a0) := (blk_cell hn 0).trans rfl
      have e1 : w8.cell? ⟨w7.heap.size, 1, none⟩ = some (.slice An2 sb.length cn2) := (blk_cell hn 1).trans rfl
      have e2_ : w8.cell? ⟨w7.heap.size, 2, none⟩ = some (.int .u32 Sb) := (blk_cell hn 2).trans rfl
      clear hm hn
      go_wp2_with fail
      refine (mani_Same.calls K _ _ _ _ _ _ _ _ _ _ _ _ (Kd.C_below (Kd.C_below HCM.out HX.out) HY.out) HLM.out (Kd.C_below HCN.out HY.out) HLN.out HSM.out).mono ?_
      rintro e w9 ⟨rfl, hb⟩
      have n0_ := Aside0.mk (below_step HY.out hb)
      clear HY hb d0 d1 d2 e0 e1 e2_
      have HY := n0_
      clear n0_
      have hm := blk_below (blk_below HTA.out HX.out) HY.out
      have d0 : w9.cell? ⟨gm, 0, none⟩ = some (.int .u64 a0) := (blk_cell hm 0).trans rfl
      have d1 : w9.cell? ⟨gm, 1, none⟩ = some (.slice Am ss.length cm) := (blk_cell hm 1).trans rfl
      have d2 : w9.cell? ⟨gm, 2, none⟩ = some (.int .u32 Sa) := (blk_cell hm 2).trans rfl
      have hn := blk_below HTN.out HY.out
      have e0 : w9.cell? ⟨w7.heap.size, 0, none⟩ = some (.int .u64 a0) := (blk_cell hn 0).trans rfl
      have e1 : w9.cell? ⟨w7.heap.size, 1, none⟩ = some (.slice An2 sb.length cn2) := (blk_cell hn 1).trans rfl
      have e2_ : w9.cell? ⟨w7.heap.size, 2, none⟩ = some (.int .u32 Sb) := (blk_cell hn 2).trans rfl
      clear hm hn
      go_wp2_with fail
      refine (mani_Matches.calls K _ _ _ _ _ _ _ _ _ _ (Kd.C_below (Kd.C_below HCM.out HX.out) HY.out) HLM.out (Kd.C_below (Kd.C_below HCA.out HX.out) HY.out) HLA.out HMA.out).mono ?_
      rintro e w10 ⟨rfl, hb⟩
      have n0_ := Aside0.mk (below_step HY.out hb)
      clear HY hb d0 d1 d2 e0 e1 e2_
      have HY := n0_
      clear n0_
      have hm := blk_below (blk_below HTA.out HX.out) HY.out
      have d0 : w10.cell? ⟨gm, 0, none⟩ = some (.int .u64 a0) := (blk_cell hm 0).trans rfl
      have d1 : w10.cell? ⟨gm, 1, none⟩ = some (.slice Am ss.length cm) := (blk_cell hm 1).trans rfl
      have d2 : w10.cell? ⟨gm, 2, none⟩ = some (.int .u32 Sa) := (blk_cell hm 2).trans rfl
      have hn := blk_below HTN.out HY.out
      have e0 : w10.cell? ⟨w7.heap.size, 0, none⟩ = some (.int .u64 a0) := (blk_cell hn 0).trans rfl
      have e1 : w10.cell? ⟨w7.heap.size, 1, none⟩ = some (.slice An2 sb.length cn2) := (blk_cell hn 1).trans rfl
      have e2_ : w10.cell? ⟨w7.heap.size, 2, none⟩ = some (.int .u32 Sb) := (blk_cell hn 2).trans rfl
      clear hm hn
      go_wp2_with fail
      refine (matches_at K _ _ _ _ _ _ _ _ _ rfl _ _ (Kd.C_below (Kd.C_below HCM.out HX.out) HY.out) HLM.out (Kd.C_below HCB.out HY.out) HLB.out HMB.out).mono ?_
      rintro e w11 ⟨rfl, hb⟩
      have n0_ := Aside0.mk (below_step HY.out hb)
      clear HY hb d0 d1 d2 e0 e1 e2_
      have HY := n0_
      clear n0_
      go_wp2
      go_ret
      exact ⟨by first | rfl | simp [ht3], below_step (below_step HB.out HX.out) HY.out⟩
/-- What the law ManiTells computes. -/
def scullerlaw12_ManiTells.f (a0 : Int) (l1 : List Int) (a2 a3 a4 a5 a6 a7 : Int) : Option Bool := if (Lit.int .u64 a0).wf = true ∧ (∀ x ∈ l1, (Lit.int .u8 x).wf = true) ∧ (Lit.int .u8 a2).wf = true ∧ (Lit.int .u8 a3).wf = true ∧ (Lit.int .u8 a4).wf = true ∧ (Lit.int .u8 a5).wf = true ∧ (Lit.int .u8 a6).wf = true ∧ (Lit.int .u8 a7).wf = true then some true else none
theorem scullerlaw12_ManiTells.calls (a0 : Int) (A1 : Option Addr) (c1 : Nat) (l1 : List Int) (a2 a3 a4 a5 a6 a7 : Int) (r : Bool) (w : World) (hr1 : Kd.C (Kd.int .u8) w A1 l1.length l1) (hc1 : l1.length ≤ c1) (h : scullerlaw12_ManiTells.f a0 l1 a2 a3 a4 a5 a6 a7 = some r) :
    Calls Try.prog 6 #[.int .u64 a0, .slice A1 l1.length c1, .int .u8 a2, .int .u8 a3, .int .u8 a4, .int .u8 a5, .int .u8 a6, .int .u8 a7] w fun e w' => e = .returned (.bool r) ∧ Below w.heap.size w w' := by
  unfold scullerlaw12_ManiTells.f at h
  split at h
  · rename_i hh
    obtain ⟨h0, h1, h2, h3, h4, h5, h6, h7⟩ := hh
    obtain rfl := Option.some.inj h
    obtain ⟨a, ha, hA⟩ := arena12 l1 a2 a3 (bounds_u8 h2) (bounds_u8 h3) (Bytes.of_wf h1) 100000 (by omega)
    exact tells_walk 100000 (by omega) a0 A1 c1 l1 a2 a3 a4 a5 a6 a7 w hr1 hc1 (bounds_u64 h0) (bounds_u8 h4) (bounds_u8 h5) (bounds_u8 h6) (bounds_u8 h7) a ha hA
  · cases h
end Go.Proofs.Ytliohoalackhiaa.K
