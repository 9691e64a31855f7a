/- The law KeepLasts returns true: what was flushed is there behind a crash, whatever is lost behind it; of what was not only what is kept: for every bytes and choices, in whatever memory. Conditions: lengths as a memory has them. -/
import Derived.Test.YtliohoalackhiaaMEKeepJ
import Derived.Test.YtliohoalackhiaaMEEBits
import Derived.Deep.RegionWith
namespace Go.Proofs.Ytliohoalackhiaa.E
open Go.ChangeMaps hiding rd
open Go.RowKit Go.Maps Go.Proofs.YtliohoalackhiaaW.PrintWords Go.Proofs.YtliohoalackhiaaW.PrintLast Go.Proofs.YtliohoalackhiaaW.PrintMore Go.Proofs.Ytliohoalackhiaa.Num
set_option linter.unusedVariables false
set_option linter.unusedSimpArgs false
/-- chunks that were put first, the newest first; the steps -/
def histA (l : List Int) : Hist := (l.map fun x => (x % 30, [x])).reverse
def stepsA (l : List Int) : List Step := l.map fun x => .put (x % 30) [x]
theorem histA_snoc (l : List Int) (x : Int) : histA (l ++ [x]) = (x % 30, [x]) :: histA l := by unfold histA; simp
theorem stepsA_snoc (l : List Int) (x : Int) : stepsA (l ++ [x]) = stepsA l ++ [.put (x % 30) [x]] := by unfold stepsA; simp
theorem histA_len (l : List Int) : (histA l).length = l.length := by unfold histA; simp
theorem stepsA_len (l : List Int) : (stepsA l).length = l.length := by unfold stepsA; simp
theorem take_rdl {l : List Int} {k : Nat} (h : k < l.length) : l.take (k + 1) = l.take k ++ [rd l (k : Int)] := by
  unfold rd
  rw [List.take_succ_eq_append_getElem h, Int.toNat_natCast, List.getD_eq_getElem?_getD, List.getElem?_eq_getElem h]; rfl
/-- chunks that were put behind, by their number -/
def histB (b : List Int) : Nat → Hist
  | 0 => []
  | k + 1 => (30 + (k : Int), [rd b (k : Int)]) :: histB b k
def stepsB (b : List Int) : Nat → List Step
  | 0 => []
  | k + 1 => stepsB b k ++ [.put (30 + (k : Int)) [rd b (k : Int)]]
theorem histB_len (b : List Int) : ∀ k, (histB b k).length = k
  | 0 => rfl
  | k + 1 => by rw [histB, List.length_cons, histB_len b k]
theorem stepsB_len (b : List Int) : ∀ k, (stepsB b k).length = k
  | 0 => rfl
  | k + 1 => by rw [stepsB, List.length_append, stepsB_len b k]; rfl
/-- .. those of them that are kept -/
def histK (b : List Int) (ks : List Bool) : Nat → Hist
  | 0 => []
  | k + 1 => if ks.getD k false = true then (30 + (k : Int), [rd b (k : Int)]) :: histK b ks k else histK b ks k
theorem crashA_snoc (s : Step) : ∀ (ss : List Step) (ks : List Bool) (A : Hist × List Int), crashA A (ss ++ [s]) ks = if ks.getD ss.length false = true then app s (crashA A ss ks) else crashA A ss ks
  | [], [], A => rfl
  | [], true :: ks, A => by rw [List.nil_append, crashA, crashA_nil, crashA_nil]; rfl
  | [], false :: ks, A => by rw [List.nil_append, crashA, crashA_nil, crashA_nil]; rfl
  | t :: ss, [], A => by rw [crashA_none, crashA_none]; simp
  | t :: ss, true :: ks, A => by rw [List.cons_append, crashA, crashA, crashA_snoc s ss ks]; rfl
  | t :: ss, false :: ks, A => by rw [List.cons_append, crashA, crashA, crashA_snoc s ss ks]; rfl
theorem crash_B (b : List Int) (ks : List Bool) (H : Hist) (t : List Int) : ∀ n, crashA (H, t) (stepsB b n) ks = (histK b ks n ++ H, t)
  | 0 => by rw [stepsB, crashA_nil]; rfl
  | n + 1 => by
    rw [stepsB, crashA_snoc, crash_B b ks H t n, stepsB_len, histK]
    split <;> rfl
theorem getA_append (H1 H2 : Hist) (i : Int) : getA (H1 ++ H2) i = (getA H1 i).or (getA H2 i) := by
  unfold getA
  rw [List.find?_append, Option.map_or]
theorem getA_A (l : List Int) {i : Int} (h : 30 ≤ i) (hl : ∀ x ∈ l, 0 ≤ x) : getA (histA l) i = none := by
  unfold getA histA
  rw [Option.map_eq_none_iff, List.find?_eq_none]
  intro p hp
  rw [List.mem_reverse, List.mem_map] at hp
  obtain ⟨x, hx, rfl⟩ := hp
  have := hl x hx
  simp only [beq_iff_eq]
  omega
theorem getA_K (b : List Int) (ks : List Bool) (i : Nat) : ∀ n, getA (histK b ks n) (30 + (i : Int)) = if i < n ∧ ks.getD i false = true then some [rd b (i : Int)] else none
  | 0 => by rw [if_neg (by omega)]; rfl
  | n + 1 => by
    have ih := getA_K b ks i n
    rw [histK]
    by_cases hk : ks.getD n false = true
    · rw [if_pos hk]
      unfold getA at ih ⊢
      rw [List.find?_cons]
      by_cases e : i = n
      · subst e
        rw [if_pos ⟨by omega, hk⟩]
        simp
      · rw [show ((30 + (n : Int), [rd b (n : Int)]).1 == 30 + (i : Int)) = false from beq_eq_false_iff_ne.mpr (by simp only; omega)]
        rw [ih]
        by_cases hi : i < n
        · simp [hi, show i < n + 1 by omega]
        · simp [hi, show ¬ i < n + 1 by omega]
    · rw [if_neg hk, ih]
      by_cases e : i = n
      · subst e; rw [if_neg (by omega), if_neg (fun q => hk q.2)]
      · by_cases hi : i < n
        · simp [hi, show i < n + 1 by omega]
        · simp [hi, show ¬ i < n + 1 by omega]
theorem getA_cons (j : Int) (x : List Int) (t : Hist) (i : Int) : getA ((j, x) :: t) i = if j = i then some x else getA t i := by
  unfold getA
  rw [List.find?_cons]
  by_cases e : j = i
  · rw [if_pos e, show ((j, x).1 == i) = true from beq_iff_eq.mpr e]; rfl
  · rw [if_neg e, show ((j, x).1 == i) = false from beq_eq_false_iff_ne.mpr e]
theorem getA_KB (b : List Int) (ks : List Bool) (i : Int) : ∀ n, (getA (histK b ks n) i).isSome = true → (getA (histB b n) i).isSome = true
  | 0 => fun h => h
  | n + 1 => fun h => by
    rw [histK] at h
    rw [histB, getA_cons]
    split
    · rfl
    · rename_i e
      refine getA_KB b ks i n ?_
      split at h
      · rw [getA_cons, if_neg e] at h; exact h
      · exact h
theorem refwithin_loop {a b : List Int} (ha : Bytes a) (hb : Bytes b) (hl : a.length ≤ 300) (h : ∀ j, j < 8 * a.length → B a j = true → B b j = true) : ∀ (d k i : Nat), i + d = 8 * a.length → d + 10 < k → scullerref03_Within.l0 k a b (i : Int) = some true := by
  intro d
  induction d with
  | zero =>
    intro k i hi hk
    obtain ⟨k, rfl⟩ : ∃ j, k = j + 1 := ⟨k - 1, by omega⟩
    rw [scullerref03_Within.l0, w64 (by omega) (by omega), if_neg (by omega)]
  | succ d ih =>
    intro k i hi hk
    obtain ⟨k, rfl⟩ : ∃ j, k = j + 1 := ⟨k - 1, by omega⟩
    have e := ih k (i + 1) (by omega) (by omega)
    rw [scullerref03_Within.l0, w64 (x := 8 * (a.length : Int)) (by omega) (by omega), if_pos (by omega), refget_nat ha (by omega) k (by omega), Option.bind_some, w64 (x := (i : Int) + 1) (by omega) (by omega)]
    cases hA : B a i with
    | true =>
      rw [if_pos rfl, refget_nat hb (by omega) k (by omega), Option.bind_some, h i (by omega) hA, if_pos rfl]
      exact e
    | false =>
      rw [if_neg (by simp)]
      exact e
theorem refwithin_true {a b : List Int} (ha : Bytes a) (hb : Bytes b) (hl : a.length ≤ 300) (h : ∀ j, j < 8 * a.length → B a j = true → B b j = true) : scullerref03_Within.f 4000 a b = some true :=
  refwithin_loop ha hb hl h (8 * a.length) 4000 0 (by omega) (by omega)
theorem Rd.now {w : World} {A : Option Addr} {n c : Nat} {xs : List Int} (h : Rd w (.slice A n c) xs) : Kd.C (Kd.int .u8) w A xs.length xs ∧ xs.length ≤ c := by
  obtain ⟨A', c', e, hl, hF⟩ := h
  cases e
  exact ⟨Kd.F_now hF, hl⟩
set_option maxRecDepth 100000 in
set_option maxHeartbeats 8000000 in
theorem lasts_walk (w : World) (Aa : Option Addr) (ca : Nat) (a : List Int) (Ab : Option Addr) (cb_ : Nat) (b : List Int) (Ak : Option Addr) (ck : Nat) (ks : List Bool)
    (hra : Kd.C (Kd.int .u8) w Aa a.length a) (hca : a.length ≤ ca) (hrb : Kd.C (Kd.int .u8) w Ab b.length b) (hcb : b.length ≤ cb_) (hrk : Kd.C Kd.bool w Ak ks.length ks) (hck : ks.length ≤ ck) (ha : Bytes a) (hb : Bytes b) (hl : a.length + b.length ≤ 60) :
    Calls Try.prog 3 #[.slice Aa a.length ca, .slice Ab b.length cb_, .slice Ak ks.length ck] w fun e w' => e = .returned (.bool true) ∧ Below w.heap.size w w' := by
  have HRA := Aside0.mk hra
  have HRB := Aside0.mk hrb
  have HRK := Aside0.mk hrk
  have HA := Aside0.mk ha
  have HBY := Aside0.mk hb
  have hl' : ¬ (a.length : Int) + (b.length : Int) > 60 := by omega
  have hla : a.length ≤ 60 := by omega
  have hlb : b.length ≤ 60 := by omega
  clear hra hrb hrk ha hb
  go_enter Try.func3, Try.ntmps3
  go_wp2_with fail
  refine (keep_new w).mono ?_
  rintro e w1 ⟨g, m1, m2, rfl, hS, hb_⟩
  have HS := Aside0.mk hS
  have HB := Aside0.mk hb_
  clear hS hb_
  go_wp2_with fail
  go_loopw [8] (fun i wr => ∃ (k m2' : Nat) (lo' : Value), k ≤ a.length ∧ i = .int .i64 k ∧ Aside0 (Sto wr w.heap.size g m1 m2' lo' ([], []) (histA (a.take k), []) (stepsA (a.take k))) ∧ Aside0 (Below w.heap.size w wr))
    (fun i _ => a.length - (intOf i).toNat)
  case atStart => exact ⟨0, m2, .slice none 0 0, Nat.zero_le _, rfl, HS, HB⟩
  case round =>
    clear HS HB
    obtain ⟨k, m3, lo3, hkl, rfl, HS, HB⟩ := hrel
    by_cases hlt : k < a.length
    · have hlt' : (k : Int) < (a.length : Int) := by omega
      obtain ⟨ad, rfl, hx⟩ := Kd.at_int (Kd.C_below HRA.out HB.out) (k : Int) (by omega) hlt'
      rw [Int.toNat_natCast] at hx
      have hxb : 0 ≤ rd a (k : Int) ∧ rd a (k : Int) ≤ 255 := by
        unfold rd
        rw [Int.toNat_natCast, List.getD_eq_getElem?_getD, List.getElem?_eq_getElem hlt]
        exact HA.out _ (List.getElem_mem hlt)
      have htk := take_rdl hlt
      generalize rd a (k : Int) = x at hx hxb htk
      have HTK := Aside0.mk htk
      clear htk
      go_wp2_with fail
      have hi : IntKind.i64.wrap (x.tmod 30) = x % 30 := by rw [Int.tmod_eq_emod_of_nonneg hxb.1, IntWalk.i64_left, IntWalk.wrap64_in _ (by omega)]
      have hb0 : Below wr.heap.size wr (wr.alloc (.cells #[.int .u8 x] 5)).drew := below_drew (below_alloc (Below.refl wr.heap.size wr) (.cells #[.int .u8 x] 5))
      have hc0 : Kd.C (Kd.int .u8) (wr.alloc (.cells #[.int .u8 x] 5)).drew (some ⟨wr.heap.size, 0, none⟩) 1 [x] := C_lit (k := .u8) [x] (blk_new wr (.cells #[.int .u8 x] 5)) rfl (by simp)
      have HSx := Aside0.mk (HS.out.below hb0)
      have HBx := Aside0.mk (below_step HB.out hb0)
      have HI := Aside0.mk hi
      have hx2 : (wr.alloc (.cells #[.int .u8 x] 5)).cell? (ad.add k) = some (.int .u8 x) := ((below_alloc (Below.refl wr.heap.size wr) (.cells #[.int .u8 x] 5)).cell (World.block_lt_of_cell? wr _ hx)).trans hx
      have HP := Aside0.mk (keep_put (wr.alloc (.cells #[.int .u8 x] 5)).drew w.heap.size g _ _ _ _ _ _ HSx.out HBx.out.size (by rw [histA_len, List.length_take]; omega) (by rw [stepsA_len, List.length_take]; omega) (x % 30) _ 1 [x] hc0 (by simp) (by omega) (by simp))
      clear HS HB hb0 hc0 hi
      go_region_with (go_at_call 16; rw [HI.out]; refine HP.out.mono ?_; rintro e w3 ⟨rfl, m4, lo4, hS, hV, hO⟩; have HS := Aside0.mk hS; have HB := Aside0.mk (hV.lift HSx.out HBx.out HBx.out.size).1; clear hS hV hO)
      all_goals
        go_wp2_with fail
        go_roundw
        case measure => simp [intOf]; omega
        case rel => exact ⟨k + 1, m4, lo4, by omega, by go_num, ⟨by rw [HTK.out, histA_snoc, stepsA_snoc]; exact HS.out⟩, HB⟩
    · have hlt' : ¬ (k : Int) < (a.length : Int) := by omega
      have htk : a.take k = a := List.take_of_length_le (by omega)
      rw [htk] at HS
      clear htk
      go_wp2_with fail
      refine (keep_flush wr w.heap.size g _ _ _ _ _ _ HS.out HB.out.size).mono ?_
      rintro e w2 ⟨⟨rv, rfl⟩, m1f, hS, hV, _⟩
      have HS2 := Aside0.mk hS
      have HB2 := Aside0.mk (hV.lift HS.out HB.out HB.out.size).1
      clear hS hV HS HB
      go_wp2_with fail
      refine (keep_held w2 w.heap.size g _ _ _ _ _ _ HS2.out).mono ?_
      rintro e w3 ⟨v3, l3, rfl, hR3, hl3, hby3, hbits3, hb_⟩
      obtain ⟨A3, c3, e3⟩ := Kd.R_slice hR3
      subst e3
      have HS3 := Aside0.mk (HS2.out.below hb_)
      have HB3 := Aside0.mk (below_step HB2.out hb_)
      have HO3 := Aside0.mk (Rd.of_R hR3)
      have HL3 := Aside0.mk (And.intro hl3 (And.intro hby3 hbits3))
      clear hR3 hl3 hby3 hbits3 hb_ HS2 HB2
      go_wp2_with fail
      go_loopw [10] (fun i wr => ∃ (k m2' : Nat) (lo' : Value), k ≤ b.length ∧ i = .int .i64 k ∧ Aside0 (Sto wr w.heap.size g m1f m2' lo' (histA a, []) (histB b k ++ histA a, []) (stepsB b k)) ∧ Aside0 (Below w.heap.size w wr) ∧ Aside0 (Rd wr (.slice A3 l3.length c3) l3))
        (fun i _ => b.length - (intOf i).toNat)
      case atStart => exact ⟨0, _, .slice none 0 0, Nat.zero_le _, rfl, HS3, HB3, HO3⟩
      case round =>
        clear HS3 HB3 HO3
        obtain ⟨k, m4, lo4, hkl, rfl, HS, HB, HO⟩ := hrel
        by_cases hlt : k < b.length
        · have hlt' : (k : Int) < (b.length : Int) := by omega
          obtain ⟨ad, rfl, hx⟩ := Kd.at_int (Kd.C_below HRB.out HB.out) (k : Int) (by omega) hlt'
          rw [Int.toNat_natCast] at hx
          generalize hxe : rd b (k : Int) = x at hx
          have HXE := Aside0.mk hxe
          clear hxe
          have hb0 := below_alloc (Below.refl wr.heap.size wr) (.cells #[.int .u8 x] 5)
          have hc0 : Kd.C (Kd.int .u8) (wr.alloc (.cells #[.int .u8 x] 5)) (some ⟨wr.heap.size, 0, none⟩) 1 [x] := C_lit (k := .u8) [x] (blk_new wr (.cells #[.int .u8 x] 5)) rfl (by simp)
          have HSx := Aside0.mk (HS.out.below hb0)
          have HBx := Aside0.mk (below_step HB.out hb0)
          have HOx := Aside0.mk (HO.out.step (softKept_below hb0))
          have HP := Aside0.mk (keep_put (wr.alloc (.cells #[.int .u8 x] 5)) w.heap.size g _ _ _ _ _ _ HSx.out HBx.out.size (by rw [List.length_append, histB_len, histA_len]; omega) (by rw [stepsB_len]; omega) (30 + (k : Int)) _ 1 [x] hc0 (by simp) (by omega) (by simp))
          clear HS HB HO hb0 hc0
          go_wp2_with fail
          refine HP.out.mono ?_
          rintro e w5 ⟨rfl, m5, lo5, hS, hV, _⟩
          have HS := Aside0.mk hS
          have HB := Aside0.mk (hV.lift HSx.out HBx.out HBx.out.size).1
          have HO := Aside0.mk (HOx.out.step (hV.soft HSx.out))
          clear hS hV
          go_wp2_with fail
          go_roundw
          case measure => simp [intOf]; omega
          case rel => exact ⟨k + 1, m5, lo5, by omega, by go_num, ⟨by rw [histB, stepsB, HXE.out, List.cons_append]; exact HS.out⟩, HB, HO⟩
        · have hlt' : ¬ (k : Int) < (b.length : Int) := by omega
          obtain rfl : k = b.length := by omega
          go_wp2_with fail
          refine (keep_held wr w.heap.size g _ _ _ _ _ _ HS.out).mono ?_
          rintro e w4 ⟨v4, l4, rfl, hR4, hl4, hby4, hbits4, hb_⟩
          obtain ⟨A4, c4, e4⟩ := Kd.R_slice hR4
          subst e4
          have HS4 := Aside0.mk (HS.out.below hb_)
          have HB4 := Aside0.mk (below_step HB.out hb_)
          have HO4 := Aside0.mk (HO.out.step (softKept_below hb_))
          have HN4 := Aside0.mk (Rd.of_R hR4)
          have HL4 := Aside0.mk (And.intro hl4 (And.intro hby4 hbits4))
          clear hR4 hl4 hby4 hbits4 hb_ HS HB HO
          go_wp2_with fail
          refine (keep_crash w4 w.heap.size g _ _ _ _ _ _ HS4.out HB4.out.size (by rw [histA_len, stepsB_len]; omega) Ak ck ks (Kd.C_kept_came Kd.heap_bool HRK.out HB4.out (fun k q => HS4.out.base q)) hck).mono ?_
          rintro e w5 ⟨⟨rv5, rfl⟩, m15, m25, hS, hV, _⟩
          rw [crash_B] at hS
          have HS := Aside0.mk hS
          have HB := Aside0.mk (hV.lift HS4.out HB4.out HB4.out.size).1
          have HO := Aside0.mk (HO4.out.step (hV.soft HS4.out))
          have HN := Aside0.mk (HN4.out.step (hV.soft HS4.out))
          clear hS hV HS4 HB4 HO4 HN4
          go_wp2_with fail
          go_loopw [12] (fun i wr => ∃ (k : Nat), k ≤ b.length ∧ i = .int .i64 k ∧ Aside0 (Sto wr w.heap.size g m15 m25 (.slice none 0 0) (histK b ks b.length ++ histA a, []) (histK b ks b.length ++ histA a, []) []) ∧ Aside0 (Below w.heap.size w wr) ∧ Aside0 (Rd wr (.slice A3 l3.length c3) l3) ∧ Aside0 (Rd wr (.slice A4 l4.length c4) l4))
            (fun i _ => b.length - (intOf i).toNat)
          case atStart => exact ⟨0, Nat.zero_le _, rfl, HS, HB, HO, HN⟩
          case round =>
            clear HS HB HO HN
            obtain ⟨k, hkl, rfl, HS, HB, HO, HN⟩ := hrel
            by_cases hlt : k < b.length
            · have hlt' : (k : Int) < (b.length : Int) := by omega
              have hget : getA (histK b ks b.length ++ histA a) (30 + (k : Int)) = if ks.getD k false = true then some [rd b (k : Int)] else none := by
                rw [getA_append, getA_K, getA_A a (by omega) (fun x hx => (HA.out x hx).1)]
                simp [hlt]
              have HG := Aside0.mk (keep_get wr w.heap.size g _ _ _ _ _ _ HS.out (30 + (k : Int)) (wf_i64 (by omega)) (by rw [hget]; split <;> simp))
              have HGE := Aside0.mk hget
              clear hget
              go_wp2_with fail
              refine HG.out.mono ?_
              rintro e w6 ⟨v6, hv_, hR6, hb_⟩
              rw [HGE.out] at hv_ hR6
              have HS6 := Aside0.mk (HS.out.below hb_)
              have HB6 := Aside0.mk (below_step HB.out hb_)
              have HO6 := Aside0.mk (HO.out.step (softKept_below hb_))
              have HN6 := Aside0.mk (HN.out.step (softKept_below hb_))
              clear hb_ HS HB HO HN HG
              obtain rfl := hv_
              obtain ⟨A6, c6, e6⟩ := Kd.R_slice hR6
              subst e6
              by_cases hk : ks.getD k false = true
              · rw [if_pos hk] at hR6 ⊢
                have hR6 : Kd.R (Kd.int .u8) 5 w6 wr.heap.size (fun _ => True) (.slice A6 ([rd b (k : Int)] : List Int).length c6) [rd b (k : Int)] := hR6
                have hkk : k < ks.length := by
                  rcases Nat.lt_or_ge k ks.length with h | h
                  · exact h
                  · rw [List.getD_eq_getElem?_getD, List.getElem?_eq_none h] at hk; cases hk
                have hkk' : (k : Int) < (ks.length : Int) := by omega
                obtain ⟨ad, rfl, hx⟩ := Kd.at_bool (Kd.C_below HRK.out HB6.out) (k : Int) (by omega) hkk'
                obtain ⟨ad2, rfl, hx2⟩ := Kd.at_int (Kd.C_below HRB.out HB6.out) (k : Int) (by omega) hlt'
                rw [show rdOf false ks (k : Int) = true from by unfold rdOf; rw [Int.toNat_natCast]; exact hk] at hx
                rw [Int.toNat_natCast] at hx hx2
                generalize rd b (k : Int) = x at hx2 hR6 ⊢
                have hbe := below_drew1 (Below.refl w6.heap.size w6)
                have hxD : w6.drew.cell? (ad.add k) = some (.bool true) := hx
                have hx2D : w6.drew.cell? (ad2.add k) = some (.int .u8 x) := hx2
                have hstrD := own_string (P := Try.prog) Try.underlying22 Try.underlying5 Try.underlying9 (Kd.own_of_R (Kd.R_below hR6 hbe))
                have hbF : Below w6.heap.size w6 (w6.alloc (.cells #[.int .u8 x] 5)).drew := below_drew (below_alloc (Below.refl w6.heap.size w6) (.cells #[.int .u8 x] 5))
                have hc0 : Kd.C (Kd.int .u8) (w6.alloc (.cells #[.int .u8 x] 5)).drew (some ⟨w6.heap.size, 0, none⟩) 1 [x] := C_lit (k := .u8) [x] (blk_new w6 (.cells #[.int .u8 x] 5)) rfl (by simp)
                have hstr2 := Kd.C_string (P := Try.prog) (c := 1) Try.underlying22 Try.underlying5 Try.underlying9 hc0
                have hstrA := own_string (P := Try.prog) Try.underlying22 Try.underlying5 Try.underlying9 (Kd.own_of_R (Kd.R_below hR6 hbF))
                have hxA : (w6.alloc (.cells #[.int .u8 x] 5)).drew.cell? (ad.add k) = some (.bool true) := (hbF.cell (World.block_lt_of_cell? _ _ hx)).trans hx
                have hx2A : (w6.alloc (.cells #[.int .u8 x] 5)).drew.cell? (ad2.add k) = some (.int .u8 x) := (hbF.cell (World.block_lt_of_cell? _ _ hx2)).trans hx2
                have HSx := Aside0.mk (HS6.out.below hbF)
                have HBx := Aside0.mk (below_step HB6.out hbF)
                have HOx := Aside0.mk (HO6.out.step (softKept_below hbF))
                have HNx := Aside0.mk (HN6.out.step (softKept_below hbF))
                have HR6 := Aside0.mk hR6
                clear hR6 HS6 HB6 HO6 HN6 hc0 hx hx2 hbF hbe
                go_wp2_with fail
                refine start_ (n := 26) (S := fun w' => w'.cell? (ad.add k) = some (.bool true) ∧ w'.cell? (ad2.add k) = some (.int .u8 x) ∧ (convert 22 9 (.slice A6 1 c6)).run Try.prog w' = .ok (.string (strOfNums [x])) w') (ds := []) #[false, false, false, false, false, false, false, false, false, false, false, false, false, false, false, false, false, false, false, false, false, false, false, false, false, false] (by kernel_rfl) rfl rfl ⟨hxD, hx2D, hstrD⟩ (fun hHeld => ?_)
                refine pure_ (i := 0) (N := some 80) (v := ?_) (a' := ?_) #[true, false, false, false, false, false, false, false, false, false, false, false, false, false, false, false, false, false, false, false, false, false, false, false, false, false] rfl rfl (by kernel_rfl) (fun _ _ _ h => h) (Or.inl ⟨by rfl, ?_⟩) ?_ ?_
                rotate_left
                · intro w'
                  go_simp
                  with_reducible rfl
                rotate_left
                · simp only [Act.put, List.setIfInBounds_toArray, List.set_cons_zero, List.set_cons_succ, i64_w, i32_w]
                  rfl
                refine pure_ (i := 1) (N := some 81) (v := ?_) (a' := ?_) #[true, true, false, false, false, false, false, false, false, false, false, false, false, false, false, false, false, false, false, false, false, false, false, false, false, false] rfl rfl (by kernel_rfl) (fun _ _ _ h => h) (Or.inl ⟨by rfl, ?_⟩) ?_ ?_
                rotate_left
                · intro w'
                  go_simp
                  with_reducible rfl
                rotate_left
                · simp only [Act.put, List.setIfInBounds_toArray, List.set_cons_zero, List.set_cons_succ, i64_w, i32_w]
                  rfl
                refine pure_ (i := 2) (N := some 82) (v := ?_) (a' := ?_) #[true, true, true, false, false, false, false, false, false, false, false, false, false, false, false, false, false, false, false, false, false, false, false, false, false, false] rfl rfl (by kernel_rfl) (fun _ _ _ h => h) (Or.inl ⟨by rfl, ?_⟩) ?_ ?_
                rotate_left
                · intro w'
                  go_simp
                  with_reducible rfl
                rotate_left
                · simp only [Act.put, List.setIfInBounds_toArray, List.set_cons_zero, List.set_cons_succ, i64_w, i32_w]
                  rfl
                refine pure_ (i := 3) (N := some 83) (v := ?_) (a' := ?_) #[true, true, true, true, false, false, false, false, false, false, false, false, false, false, false, false, false, false, false, false, false, false, false, false, false, false] rfl rfl (by kernel_rfl) (fun _ _ _ h => h) (Or.inl ⟨by rfl, ?_⟩) ?_ ?_
                rotate_left
                · intro w'
                  go_simp
                  with_reducible rfl
                rotate_left
                · simp only [Act.put, List.setIfInBounds_toArray, List.set_cons_zero, List.set_cons_succ, i64_w, i32_w]
                  rfl
                refine pure_ (i := 4) (N := some 84) (v := ?_) (a' := ?_) #[true, true, true, true, true, false, false, false, false, false, false, false, false, false, false, false, false, false, false, false, false, false, false, false, false, false] rfl rfl (by kernel_rfl) (fun _ _ _ h => h) (Or.inl ⟨by rfl, ?_⟩) ?_ ?_
                rotate_left
                · intro w'
                  go_simp
                  with_reducible rfl
                rotate_left
                · simp only [Act.put, List.setIfInBounds_toArray, List.set_cons_zero, List.set_cons_succ, i64_w, i32_w]
                  rfl
                refine pure_ (i := 5) (N := some 85) (v := ?_) (a' := ?_) #[true, true, true, true, true, true, false, false, false, false, false, false, false, false, false, false, false, false, false, false, false, false, false, false, false, false] rfl rfl (by kernel_rfl) (fun _ _ _ h => h) (Or.inl ⟨by rfl, ?_⟩) ?_ ?_
                rotate_left
                · intro w'
                  go_simp
                  with_reducible rfl
                rotate_left
                · simp only [Act.put, List.setIfInBounds_toArray, List.set_cons_zero, List.set_cons_succ, i64_w, i32_w]
                  rfl
                refine pure_ (i := 6) (N := some 86) (v := ?_) (a' := ?_) #[true, true, true, true, true, true, true, false, false, false, false, false, false, false, false, false, false, false, false, false, false, false, false, false, false, false] rfl rfl (by kernel_rfl) (fun _ _ _ h => h) (Or.inl ⟨by rfl, ?_⟩) ?_ ?_
                rotate_left
                · intro w'
                  go_simp
                  with_reducible rfl
                rotate_left
                · simp only [Act.put, List.setIfInBounds_toArray, List.set_cons_zero, List.set_cons_succ, i64_w, i32_w]
                  rfl
                refine pure_ (i := 7) (N := some 87) (v := ?_) (a' := ?_) #[true, true, true, true, true, true, true, true, false, false, false, false, false, false, false, false, false, false, false, false, false, false, false, false, false, false] rfl rfl (by kernel_rfl) (fun _ _ _ h => h) (Or.inl ⟨by rfl, ?_⟩) ?_ ?_
                rotate_left
                · intro w'
                  go_simp
                  with_reducible rfl
                rotate_left
                · simp only [Act.put, List.setIfInBounds_toArray, List.set_cons_zero, List.set_cons_succ, i64_w, i32_w]
                  rfl
                refine pure_ (i := 8) (N := some 88) (v := ?_) (a' := ?_) #[true, true, true, true, true, true, true, true, true, false, false, false, false, false, false, false, false, false, false, false, false, false, false, false, false, false] rfl rfl (by kernel_rfl) (fun _ _ _ h => h) (Or.inl ⟨by rfl, ?_⟩) ?_ ?_
                rotate_left
                · intro w'
                  go_simp
                  with_reducible rfl
                rotate_left
                · simp only [Act.put, List.setIfInBounds_toArray, List.set_cons_zero, List.set_cons_succ, i64_w, i32_w]
                  rfl
                refine take_ (i := 9) (N := some 89) (v := ?_) (a' := ?_) #[true, true, true, true, true, true, true, true, true, true, false, false, false, false, false, false, false, false, false, false, false, false, false, false, false, false] rfl rfl (by kernel_rfl) (fun _ _ _ h => h) (Or.inl ⟨by rfl, ?_⟩) hHeld ?_ ?_
                rotate_left
                · rintro w' ⟨s0, s1, s2⟩
                  go_simp
                  with_reducible rfl
                rotate_left
                · simp only [Act.put, List.setIfInBounds_toArray, List.set_cons_zero, List.set_cons_succ, i64_w, i32_w]
                  rfl
                refine pure_ (i := 10) (N := some 90) (v := ?_) (a' := ?_) #[true, true, true, true, true, true, true, true, true, true, true, false, false, false, false, false, false, false, false, false, false, false, false, false, false, false] rfl rfl (by kernel_rfl) (fun _ _ _ h => h) (Or.inl ⟨by rfl, ?_⟩) ?_ ?_
                rotate_left
                · intro w'
                  go_simp
                  with_reducible rfl
                rotate_left
                · simp only [Act.put, List.setIfInBounds_toArray, List.set_cons_zero, List.set_cons_succ, i64_w, i32_w]
                  rfl
                refine pure_ (i := 11) (N := some 91) (v := ?_) (a' := ?_) #[true, true, true, true, true, true, true, true, true, true, true, true, false, false, false, false, false, false, false, false, false, false, false, false, false, false] rfl rfl (by kernel_rfl) (fun _ _ _ h => h) (Or.inl ⟨by rfl, ?_⟩) ?_ ?_
                rotate_left
                · intro w'
                  go_simp
                  with_reducible rfl
                rotate_left
                · simp only [Act.put, List.setIfInBounds_toArray, List.set_cons_zero, List.set_cons_succ, i64_w, i32_w]
                  rfl
                refine pure_ (i := 12) (N := some 92) (v := ?_) (a' := ?_) #[true, true, true, true, true, true, true, true, true, true, true, true, true, false, false, false, false, false, false, false, false, false, false, false, false, false] rfl rfl (by kernel_rfl) (fun _ _ _ h => h) (Or.inl ⟨by rfl, ?_⟩) ?_ ?_
                rotate_left
                · intro w'
                  go_simp
                  with_reducible rfl
                rotate_left
                · simp only [Act.put, List.setIfInBounds_toArray, List.set_cons_zero, List.set_cons_succ, i64_w, i32_w]
                  rfl
                refine pure_ (i := 13) (N := some 93) (v := ?_) (a' := ?_) #[true, true, true, true, true, true, true, true, true, true, true, true, true, true, false, false, false, false, false, false, false, false, false, false, false, false] rfl rfl (by kernel_rfl) (fun _ _ _ h => h) (Or.inl ⟨by rfl, ?_⟩) ?_ ?_
                rotate_left
                · intro w'
                  go_simp
                  with_reducible rfl
                rotate_left
                · simp only [Act.put, List.setIfInBounds_toArray, List.set_cons_zero, List.set_cons_succ, i64_w, i32_w]
                  rfl
                refine pure_ (i := 14) (N := some 94) (v := ?_) (a' := ?_) #[true, true, true, true, true, true, true, true, true, true, true, true, true, true, true, false, false, false, false, false, false, false, false, false, false, false] rfl rfl (by kernel_rfl) (fun _ _ _ h => h) (Or.inl ⟨by rfl, ?_⟩) ?_ ?_
                rotate_left
                · intro w'
                  go_simp
                  with_reducible rfl
                rotate_left
                · simp only [Act.put, List.setIfInBounds_toArray, List.set_cons_zero, List.set_cons_succ, i64_w, i32_w]
                  rfl
                refine pure_ (i := 15) (N := some 95) (v := ?_) (a' := ?_) #[true, true, true, true, true, true, true, true, true, true, true, true, true, true, true, true, false, false, false, false, false, false, false, false, false, false] rfl rfl (by kernel_rfl) (fun _ _ _ h => h) (Or.inl ⟨by rfl, ?_⟩) ?_ ?_
                rotate_left
                · intro w'
                  go_simp
                  with_reducible rfl
                rotate_left
                · simp only [Act.put, List.setIfInBounds_toArray, List.set_cons_zero, List.set_cons_succ, i64_w, i32_w]
                  rfl
                refine pure_ (i := 17) (N := some 97) (v := ?_) (a' := ?_) #[true, true, true, true, true, true, true, true, true, true, true, true, true, true, true, true, false, true, false, false, false, false, false, false, false, false] rfl rfl (by kernel_rfl) (fun _ _ _ h => h) (Or.inl ⟨by rfl, ?_⟩) ?_ ?_
                rotate_left
                · intro w'
                  go_simp
                  with_reducible rfl
                rotate_left
                · simp only [Act.put, List.setIfInBounds_toArray, List.set_cons_zero, List.set_cons_succ, i64_w, i32_w]
                  rfl
                refine pure_ (i := 18) (N := some 98) (v := ?_) (a' := ?_) #[true, true, true, true, true, true, true, true, true, true, true, true, true, true, true, true, false, true, true, false, false, false, false, false, false, false] rfl rfl (by kernel_rfl) (fun _ _ _ h => h) (Or.inl ⟨by rfl, ?_⟩) ?_ ?_
                rotate_left
                · intro w'
                  go_simp
                  with_reducible rfl
                rotate_left
                · simp only [Act.put, List.setIfInBounds_toArray, List.set_cons_zero, List.set_cons_succ, i64_w, i32_w]
                  rfl
                refine pure_ (i := 19) (N := some 99) (v := ?_) (a' := ?_) #[true, true, true, true, true, true, true, true, true, true, true, true, true, true, true, true, false, true, true, true, false, false, false, false, false, false] rfl rfl (by kernel_rfl) (fun _ _ _ h => h) (Or.inl ⟨by rfl, ?_⟩) ?_ ?_
                rotate_left
                · intro w'
                  go_simp
                  with_reducible rfl
                rotate_left
                · simp only [Act.put, List.setIfInBounds_toArray, List.set_cons_zero, List.set_cons_succ, i64_w, i32_w]
                  rfl
                refine take_ (i := 16) (N := some 96) (v := ?_) (a' := ?_) #[true, true, true, true, true, true, true, true, true, true, true, true, true, true, true, true, true, true, true, true, false, false, false, false, false, false] rfl rfl (by kernel_rfl) (fun _ _ _ h => h) (Or.inl ⟨by rfl, ?_⟩) hHeld ?_ ?_
                rotate_left
                · rintro w' ⟨s0, s1, s2⟩
                  go_simp
                  with_reducible rfl
                rotate_left
                · simp only [Act.put, List.setIfInBounds_toArray, List.set_cons_zero, List.set_cons_succ, i64_w, i32_w]
                  rfl
                refine take_ (i := 20) (N := some 100) (v := ?_) (a' := ?_) #[true, true, true, true, true, true, true, true, true, true, true, true, true, true, true, true, true, true, true, true, true, false, false, false, false, false] rfl rfl (by kernel_rfl) (fun _ _ _ h => h) (Or.inl ⟨by rfl, ?_⟩) hHeld ?_ ?_
                rotate_left
                · rintro w' ⟨s0, s1, s2⟩
                  go_simp
                  with_reducible rfl
                rotate_left
                · simp only [Act.put, List.setIfInBounds_toArray, List.set_cons_zero, List.set_cons_succ, i64_w, i32_w]
                  rfl
                refine one_ (i := 21) (N := some 101) #[true, true, true, true, true, true, true, true, true, true, true, true, true, true, true, true, true, true, true, true, true, true, false, false, false, false] rfl rfl (by kernel_rfl) (by decide) (fun K hK => ?_)
                refine value_ (w1 := ?_) (v := ?_) (by rfl) rfl ?_ ?_
                rotate_left 2
                · go_simp
                  constructor
                  · rfl
                  · rfl
                refine hK.out _ _ ⟨hxA, hx2A, hstrA⟩ (fun hHeld => ?_)
                clear hK K
                refine norm_ (a' := ?_) ?_ ?_
                rotate_left
                · show Act.put _ (some 101) _ = _
                  simp only [Act.put, List.setIfInBounds_toArray, List.set_cons_zero, List.set_cons_succ, i64_w, i32_w]
                  rfl
                refine one_ (i := 22) (N := some 102) #[true, true, true, true, true, true, true, true, true, true, true, true, true, true, true, true, true, true, true, true, true, true, true, false, false, false] rfl rfl (by kernel_rfl) (by decide) (fun K hK => ?_)
                refine value_ (w1 := ?_) (v := ?_) (by rfl) rfl ?_ ?_
                rotate_left 2
                · go_simp
                  constructor
                  · rfl
                  · rfl
                refine hK.out _ _ ⟨hxA, hx2A, hstrA⟩ (fun hHeld => ?_)
                clear hK K
                refine norm_ (a' := ?_) ?_ ?_
                rotate_left
                · show Act.put _ (some 102) _ = _
                  simp only [Act.put, List.setIfInBounds_toArray, List.set_cons_zero, List.set_cons_succ, i64_w, i32_w]
                  rfl
                refine pure_ (i := 23) (N := some 103) (v := ?_) (a' := ?_) #[true, true, true, true, true, true, true, true, true, true, true, true, true, true, true, true, true, true, true, true, true, true, true, true, false, false] rfl rfl (by kernel_rfl) (fun _ _ _ h => h) (Or.inl ⟨by rfl, ?_⟩) ?_ ?_
                rotate_left
                · intro w'
                  go_simp
                  with_reducible rfl
                rotate_left
                · simp only [Act.put, List.setIfInBounds_toArray, List.set_cons_zero, List.set_cons_succ, i64_w, i32_w]
                  rfl
                refine pure_ (i := 24) (N := some 104) (v := ?_) (a' := ?_) #[true, true, true, true, true, true, true, true, true, true, true, true, true, true, true, true, true, true, true, true, true, true, true, true, true, false] rfl rfl (by kernel_rfl) (fun _ _ _ h => h) (Or.inl ⟨by rfl, ?_⟩) ?_ ?_
                rotate_left
                · intro w'
                  go_simp
                  with_reducible rfl
                rotate_left
                · simp only [Act.put, List.setIfInBounds_toArray, List.set_cons_zero, List.set_cons_succ, i64_w, i32_w]
                  rfl
                refine pure_ (i := 25) (N := some 105) (v := ?_) (a' := ?_) #[true, true, true, true, true, true, true, true, true, true, true, true, true, true, true, true, true, true, true, true, true, true, true, true, true, true] rfl rfl (by kernel_rfl) (fun _ _ _ h => h) (Or.inl ⟨by rfl, ?_⟩) ?_ ?_
                rotate_left
                · intro w'
                  go_simp
                  with_reducible rfl
                rotate_left
                · simp only [Act.put, List.setIfInBounds_toArray, List.set_cons_zero, List.set_cons_succ, i64_w, i32_w]
                  rfl
                refine done_ (by kernel_rfl) ?_
                go_wp2_with fail
                go_roundw
                case measure => simp [intOf]; omega
                case rel => exact ⟨k + 1, by omega, by go_num, HSx, HBx, HOx, HNx⟩
              · rw [if_neg hk] at hR6 ⊢
                have HR6 := Aside0.mk hR6
                clear hR6
                by_cases hkk : k < ks.length
                · have hkk' : (k : Int) < (ks.length : Int) := by omega
                  obtain ⟨ad, rfl, hx⟩ := Kd.at_bool (Kd.C_below HRK.out HB6.out) (k : Int) (by omega) hkk'
                  rw [show rdOf false ks (k : Int) = false from by unfold rdOf; rw [Int.toNat_natCast]; exact Bool.eq_false_iff.2 hk] at hx
                  rw [Int.toNat_natCast] at hx
                  have hbe := below_drew1 (Below.refl w6.heap.size w6)
                  have HSx := Aside0.mk (HS6.out.below hbe)
                  have HBx := Aside0.mk (below_step HB6.out hbe)
                  have HOx := Aside0.mk (HO6.out.step (softKept_below hbe))
                  have HNx := Aside0.mk (HN6.out.step (softKept_below hbe))
                  clear HS6 HB6 HO6 HN6 hbe
                  go_wp2_with fail
                  refine start_ (n := 26) (S := fun w' => w'.cell? (ad.add k) = some (.bool false)) (ds := []) #[false, false, false, false, false, false, false, false, false, false, false, false, false, false, false, false, false, false, false, false, false, false, false, false, false, false] (by kernel_rfl) rfl rfl (hx) (fun hHeld => ?_)
                  refine pure_ (i := 0) (N := some 80) (v := ?_) (a' := ?_) #[true, false, false, false, false, false, false, false, false, false, false, false, false, false, false, false, false, false, false, false, false, false, false, false, false, false] rfl rfl (by kernel_rfl) (fun _ _ _ h => h) (Or.inl ⟨by rfl, ?_⟩) ?_ ?_
                  rotate_left
                  · intro w'
                    go_simp
                    with_reducible rfl
                  rotate_left
                  · simp only [Act.put, List.setIfInBounds_toArray, List.set_cons_zero, List.set_cons_succ, i64_w, i32_w]
                    rfl
                  refine pure_ (i := 1) (N := some 81) (v := ?_) (a' := ?_) #[true, true, false, false, false, false, false, false, false, false, false, false, false, false, false, false, false, false, false, false, false, false, false, false, false, false] rfl rfl (by kernel_rfl) (fun _ _ _ h => h) (Or.inl ⟨by rfl, ?_⟩) ?_ ?_
                  rotate_left
                  · intro w'
                    go_simp
                    with_reducible rfl
                  rotate_left
                  · simp only [Act.put, List.setIfInBounds_toArray, List.set_cons_zero, List.set_cons_succ, i64_w, i32_w]
                    rfl
                  refine pure_ (i := 2) (N := some 82) (v := ?_) (a' := ?_) #[true, true, true, false, false, false, false, false, false, false, false, false, false, false, false, false, false, false, false, false, false, false, false, false, false, false] rfl rfl (by kernel_rfl) (fun _ _ _ h => h) (Or.inl ⟨by rfl, ?_⟩) ?_ ?_
                  rotate_left
                  · intro w'
                    go_simp
                    with_reducible rfl
                  rotate_left
                  · simp only [Act.put, List.setIfInBounds_toArray, List.set_cons_zero, List.set_cons_succ, i64_w, i32_w]
                    rfl
                  refine pure_ (i := 3) (N := some 83) (v := ?_) (a' := ?_) #[true, true, true, true, false, false, false, false, false, false, false, false, false, false, false, false, false, false, false, false, false, false, false, false, false, false] rfl rfl (by kernel_rfl) (fun _ _ _ h => h) (Or.inl ⟨by rfl, ?_⟩) ?_ ?_
                  rotate_left
                  · intro w'
                    go_simp
                    with_reducible rfl
                  rotate_left
                  · simp only [Act.put, List.setIfInBounds_toArray, List.set_cons_zero, List.set_cons_succ, i64_w, i32_w]
                    rfl
                  refine pure_ (i := 4) (N := some 84) (v := ?_) (a' := ?_) #[true, true, true, true, true, false, false, false, false, false, false, false, false, false, false, false, false, false, false, false, false, false, false, false, false, false] rfl rfl (by kernel_rfl) (fun _ _ _ h => h) (Or.inl ⟨by rfl, ?_⟩) ?_ ?_
                  rotate_left
                  · intro w'
                    go_simp
                    with_reducible rfl
                  rotate_left
                  · simp only [Act.put, List.setIfInBounds_toArray, List.set_cons_zero, List.set_cons_succ, i64_w, i32_w]
                    rfl
                  refine pure_ (i := 5) (N := some 85) (v := ?_) (a' := ?_) #[true, true, true, true, true, true, false, false, false, false, false, false, false, false, false, false, false, false, false, false, false, false, false, false, false, false] rfl rfl (by kernel_rfl) (fun _ _ _ h => h) (Or.inl ⟨by rfl, ?_⟩) ?_ ?_
                  rotate_left
                  · intro w'
                    go_simp
                    with_reducible rfl
                  rotate_left
                  · simp only [Act.put, List.setIfInBounds_toArray, List.set_cons_zero, List.set_cons_succ, i64_w, i32_w]
                    rfl
                  refine pure_ (i := 6) (N := some 86) (v := ?_) (a' := ?_) #[true, true, true, true, true, true, true, false, false, false, false, false, false, false, false, false, false, false, false, false, false, false, false, false, false, false] rfl rfl (by kernel_rfl) (fun _ _ _ h => h) (Or.inl ⟨by rfl, ?_⟩) ?_ ?_
                  rotate_left
                  · intro w'
                    go_simp
                    with_reducible rfl
                  rotate_left
                  · simp only [Act.put, List.setIfInBounds_toArray, List.set_cons_zero, List.set_cons_succ, i64_w, i32_w]
                    rfl
                  refine pure_ (i := 7) (N := some 87) (v := ?_) (a' := ?_) #[true, true, true, true, true, true, true, true, false, false, false, false, false, false, false, false, false, false, false, false, false, false, false, false, false, false] rfl rfl (by kernel_rfl) (fun _ _ _ h => h) (Or.inl ⟨by rfl, ?_⟩) ?_ ?_
                  rotate_left
                  · intro w'
                    go_simp
                    with_reducible rfl
                  rotate_left
                  · simp only [Act.put, List.setIfInBounds_toArray, List.set_cons_zero, List.set_cons_succ, i64_w, i32_w]
                    rfl
                  refine pure_ (i := 8) (N := some 88) (v := ?_) (a' := ?_) #[true, true, true, true, true, true, true, true, true, false, false, false, false, false, false, false, false, false, false, false, false, false, false, false, false, false] rfl rfl (by kernel_rfl) (fun _ _ _ h => h) (Or.inl ⟨by rfl, ?_⟩) ?_ ?_
                  rotate_left
                  · intro w'
                    go_simp
                    with_reducible rfl
                  rotate_left
                  · simp only [Act.put, List.setIfInBounds_toArray, List.set_cons_zero, List.set_cons_succ, i64_w, i32_w]
                    rfl
                  refine take_ (i := 9) (N := some 89) (v := ?_) (a' := ?_) #[true, true, true, true, true, true, true, true, true, true, false, false, false, false, false, false, false, false, false, false, false, false, false, false, false, false] rfl rfl (by kernel_rfl) (fun _ _ _ h => h) (Or.inl ⟨by rfl, ?_⟩) hHeld ?_ ?_
                  rotate_left
                  · intro w' s0
                    go_simp
                    with_reducible rfl
                  rotate_left
                  · simp only [Act.put, List.setIfInBounds_toArray, List.set_cons_zero, List.set_cons_succ, i64_w, i32_w]
                    rfl
                  refine pure_ (i := 10) (N := some 90) (v := ?_) (a' := ?_) #[true, true, true, true, true, true, true, true, true, true, true, false, false, false, false, false, false, false, false, false, false, false, false, false, false, false] rfl rfl (by kernel_rfl) (fun _ _ _ h => h) (Or.inl ⟨by rfl, ?_⟩) ?_ ?_
                  rotate_left
                  · intro w'
                    go_simp
                    with_reducible rfl
                  rotate_left
                  · simp only [Act.put, List.setIfInBounds_toArray, List.set_cons_zero, List.set_cons_succ, i64_w, i32_w]
                    rfl
                  refine pure_ (i := 11) (N := some 91) (v := ?_) (a' := ?_) #[true, true, true, true, true, true, true, true, true, true, true, true, false, false, false, false, false, false, false, false, false, false, false, false, false, false] rfl rfl (by kernel_rfl) (fun _ _ _ h => h) (Or.inl ⟨by rfl, ?_⟩) ?_ ?_
                  rotate_left
                  · intro w'
                    go_simp
                    with_reducible rfl
                  rotate_left
                  · simp only [Act.put, List.setIfInBounds_toArray, List.set_cons_zero, List.set_cons_succ, i64_w, i32_w]
                    rfl
                  refine pure_ (i := 12) (N := some 92) (v := ?_) (a' := ?_) #[true, true, true, true, true, true, true, true, true, true, true, true, true, false, false, false, false, false, false, false, false, false, false, false, false, false] rfl rfl (by kernel_rfl) (fun _ _ _ h => h) (Or.inl ⟨by rfl, ?_⟩) ?_ ?_
                  rotate_left
                  · intro w'
                    go_simp
                    with_reducible rfl
                  rotate_left
                  · simp only [Act.put, List.setIfInBounds_toArray, List.set_cons_zero, List.set_cons_succ, i64_w, i32_w]
                    rfl
                  refine pure_ (i := 13) (N := some 93) (v := ?_) (a' := ?_) #[true, true, true, true, true, true, true, true, true, true, true, true, true, true, false, false, false, false, false, false, false, false, false, false, false, false] rfl rfl (by kernel_rfl) (fun _ _ _ h => h) (Or.inl ⟨by rfl, ?_⟩) ?_ ?_
                  rotate_left
                  · intro w'
                    go_simp
                    with_reducible rfl
                  rotate_left
                  · simp only [Act.put, List.setIfInBounds_toArray, List.set_cons_zero, List.set_cons_succ, i64_w, i32_w]
                    rfl
                  refine pure_ (i := 14) (N := some 94) (v := ?_) (a' := ?_) #[true, true, true, true, true, true, true, true, true, true, true, true, true, true, true, false, false, false, false, false, false, false, false, false, false, false] rfl rfl (by kernel_rfl) (fun _ _ _ h => h) (Or.inl ⟨by rfl, ?_⟩) ?_ ?_
                  rotate_left
                  · intro w'
                    go_simp
                    with_reducible rfl
                  rotate_left
                  · simp only [Act.put, List.setIfInBounds_toArray, List.set_cons_zero, List.set_cons_succ, i64_w, i32_w]
                    rfl
                  refine pure_ (i := 15) (N := some 95) (v := undef) (a' := ?_) #[true, true, true, true, true, true, true, true, true, true, true, true, true, true, true, true, false, false, false, false, false, false, false, false, false, false] rfl rfl (by kernel_rfl) (fun _ _ _ h => h) (Or.inr ⟨by rfl, rfl⟩) ?_ ?_
                  rotate_left
                  · simp only [Act.put, List.setIfInBounds_toArray, List.set_cons_zero, List.set_cons_succ, i64_w, i32_w]
                    rfl
                  refine pure_ (i := 16) (N := some 96) (v := undef) (a' := ?_) #[true, true, true, true, true, true, true, true, true, true, true, true, true, true, true, true, true, false, false, false, false, false, false, false, false, false] rfl rfl (by kernel_rfl) (fun _ _ _ h => h) (Or.inr ⟨by rfl, rfl⟩) ?_ ?_
                  rotate_left
                  · simp only [Act.put, List.setIfInBounds_toArray, List.set_cons_zero, List.set_cons_succ, i64_w, i32_w]
                    rfl
                  refine pure_ (i := 17) (N := some 97) (v := undef) (a' := ?_) #[true, true, true, true, true, true, true, true, true, true, true, true, true, true, true, true, true, true, false, false, false, false, false, false, false, false] rfl rfl (by kernel_rfl) (fun _ _ _ h => h) (Or.inr ⟨by rfl, rfl⟩) ?_ ?_
                  rotate_left
                  · simp only [Act.put, List.setIfInBounds_toArray, List.set_cons_zero, List.set_cons_succ, i64_w, i32_w]
                    rfl
                  refine pure_ (i := 18) (N := some 98) (v := undef) (a' := ?_) #[true, true, true, true, true, true, true, true, true, true, true, true, true, true, true, true, true, true, true, false, false, false, false, false, false, false] rfl rfl (by kernel_rfl) (fun _ _ _ h => h) (Or.inr ⟨by rfl, rfl⟩) ?_ ?_
                  rotate_left
                  · simp only [Act.put, List.setIfInBounds_toArray, List.set_cons_zero, List.set_cons_succ, i64_w, i32_w]
                    rfl
                  refine pure_ (i := 19) (N := some 99) (v := undef) (a' := ?_) #[true, true, true, true, true, true, true, true, true, true, true, true, true, true, true, true, true, true, true, true, false, false, false, false, false, false] rfl rfl (by kernel_rfl) (fun _ _ _ h => h) (Or.inr ⟨by rfl, rfl⟩) ?_ ?_
                  rotate_left
                  · simp only [Act.put, List.setIfInBounds_toArray, List.set_cons_zero, List.set_cons_succ, i64_w, i32_w]
                    rfl
                  refine pure_ (i := 20) (N := some 100) (v := undef) (a' := ?_) #[true, true, true, true, true, true, true, true, true, true, true, true, true, true, true, true, true, true, true, true, true, false, false, false, false, false] rfl rfl (by kernel_rfl) (fun _ _ _ h => h) (Or.inr ⟨by rfl, rfl⟩) ?_ ?_
                  rotate_left
                  · simp only [Act.put, List.setIfInBounds_toArray, List.set_cons_zero, List.set_cons_succ, i64_w, i32_w]
                    rfl
                  refine pure_ (i := 21) (N := some 101) (v := undef) (a' := ?_) #[true, true, true, true, true, true, true, true, true, true, true, true, true, true, true, true, true, true, true, true, true, true, false, false, false, false] rfl rfl (by kernel_rfl) (fun _ _ _ h => h) (Or.inr ⟨by rfl, rfl⟩) ?_ ?_
                  rotate_left
                  · simp only [Act.put, List.setIfInBounds_toArray, List.set_cons_zero, List.set_cons_succ, i64_w, i32_w]
                    rfl
                  refine pure_ (i := 22) (N := some 102) (v := undef) (a' := ?_) #[true, true, true, true, true, true, true, true, true, true, true, true, true, true, true, true, true, true, true, true, true, true, true, false, false, false] rfl rfl (by kernel_rfl) (fun _ _ _ h => h) (Or.inr ⟨by rfl, rfl⟩) ?_ ?_
                  rotate_left
                  · simp only [Act.put, List.setIfInBounds_toArray, List.set_cons_zero, List.set_cons_succ, i64_w, i32_w]
                    rfl
                  refine pure_ (i := 23) (N := some 103) (v := undef) (a' := ?_) #[true, true, true, true, true, true, true, true, true, true, true, true, true, true, true, true, true, true, true, true, true, true, true, true, false, false] rfl rfl (by kernel_rfl) (fun _ _ _ h => h) (Or.inr ⟨by rfl, rfl⟩) ?_ ?_
                  rotate_left
                  · simp only [Act.put, List.setIfInBounds_toArray, List.set_cons_zero, List.set_cons_succ, i64_w, i32_w]
                    rfl
                  refine pure_ (i := 24) (N := some 104) (v := ?_) (a' := ?_) #[true, true, true, true, true, true, true, true, true, true, true, true, true, true, true, true, true, true, true, true, true, true, true, true, true, false] rfl rfl (by kernel_rfl) (fun _ _ _ h => h) (Or.inl ⟨by rfl, ?_⟩) ?_ ?_
                  rotate_left
                  · intro w'
                    go_simp
                    with_reducible rfl
                  rotate_left
                  · simp only [Act.put, List.setIfInBounds_toArray, List.set_cons_zero, List.set_cons_succ, i64_w, i32_w]
                    rfl
                  refine pure_ (i := 25) (N := some 105) (v := ?_) (a' := ?_) #[true, true, true, true, true, true, true, true, true, true, true, true, true, true, true, true, true, true, true, true, true, true, true, true, true, true] rfl rfl (by kernel_rfl) (fun _ _ _ h => h) (Or.inl ⟨by rfl, ?_⟩) ?_ ?_
                  rotate_left
                  · intro w'
                    go_simp
                    with_reducible rfl
                  rotate_left
                  · simp only [Act.put, List.setIfInBounds_toArray, List.set_cons_zero, List.set_cons_succ, i64_w, i32_w]
                    rfl
                  refine done_ (by kernel_rfl) ?_
                  go_wp2_with fail
                  go_roundw
                  case measure => simp [intOf]; omega
                  case rel => exact ⟨k + 1, by omega, by go_num, HSx, HBx, HOx, HNx⟩
                · have hkk' : ¬ (k : Int) < (ks.length : Int) := by omega
                  have hbe := below_drew1 (Below.refl w6.heap.size w6)
                  have HSx := Aside0.mk (HS6.out.below hbe)
                  have HBx := Aside0.mk (below_step HB6.out hbe)
                  have HOx := Aside0.mk (HO6.out.step (softKept_below hbe))
                  have HNx := Aside0.mk (HN6.out.step (softKept_below hbe))
                  clear HS6 HB6 HO6 HN6 hbe
                  go_wp2_with fail
                  refine start_ (n := 26) (S := fun w' => True) (ds := []) #[false, false, false, false, false, false, false, false, false, false, false, false, false, false, false, false, false, false, false, false, false, false, false, false, false, false] (by kernel_rfl) rfl rfl trivial (fun hHeld => ?_)
                  refine pure_ (i := 0) (N := some 80) (v := ?_) (a' := ?_) #[true, false, false, false, false, false, false, false, false, false, false, false, false, false, false, false, false, false, false, false, false, false, false, false, false, false] rfl rfl (by kernel_rfl) (fun _ _ _ h => h) (Or.inl ⟨by rfl, ?_⟩) ?_ ?_
                  rotate_left
                  · intro w'
                    go_simp
                    with_reducible rfl
                  rotate_left
                  · simp only [Act.put, List.setIfInBounds_toArray, List.set_cons_zero, List.set_cons_succ, i64_w, i32_w]
                    rfl
                  refine pure_ (i := 1) (N := some 81) (v := ?_) (a' := ?_) #[true, true, false, false, false, false, false, false, false, false, false, false, false, false, false, false, false, false, false, false, false, false, false, false, false, false] rfl rfl (by kernel_rfl) (fun _ _ _ h => h) (Or.inl ⟨by rfl, ?_⟩) ?_ ?_
                  rotate_left
                  · intro w'
                    go_simp
                    with_reducible rfl
                  rotate_left
                  · simp only [Act.put, List.setIfInBounds_toArray, List.set_cons_zero, List.set_cons_succ, i64_w, i32_w]
                    rfl
                  refine pure_ (i := 2) (N := some 82) (v := ?_) (a' := ?_) #[true, true, true, false, false, false, false, false, false, false, false, false, false, false, false, false, false, false, false, false, false, false, false, false, false, false] rfl rfl (by kernel_rfl) (fun _ _ _ h => h) (Or.inl ⟨by rfl, ?_⟩) ?_ ?_
                  rotate_left
                  · intro w'
                    go_simp
                    with_reducible rfl
                  rotate_left
                  · simp only [Act.put, List.setIfInBounds_toArray, List.set_cons_zero, List.set_cons_succ, i64_w, i32_w]
                    rfl
                  refine pure_ (i := 3) (N := some 83) (v := ?_) (a' := ?_) #[true, true, true, true, false, false, false, false, false, false, false, false, false, false, false, false, false, false, false, false, false, false, false, false, false, false] rfl rfl (by kernel_rfl) (fun _ _ _ h => h) (Or.inl ⟨by rfl, ?_⟩) ?_ ?_
                  rotate_left
                  · intro w'
                    go_simp
                    with_reducible rfl
                  rotate_left
                  · simp only [Act.put, List.setIfInBounds_toArray, List.set_cons_zero, List.set_cons_succ, i64_w, i32_w]
                    rfl
                  refine pure_ (i := 4) (N := some 84) (v := ?_) (a' := ?_) #[true, true, true, true, true, false, false, false, false, false, false, false, false, false, false, false, false, false, false, false, false, false, false, false, false, false] rfl rfl (by kernel_rfl) (fun _ _ _ h => h) (Or.inl ⟨by rfl, ?_⟩) ?_ ?_
                  rotate_left
                  · intro w'
                    go_simp
                    with_reducible rfl
                  rotate_left
                  · simp only [Act.put, List.setIfInBounds_toArray, List.set_cons_zero, List.set_cons_succ, i64_w, i32_w]
                    rfl
                  refine pure_ (i := 5) (N := some 85) (v := ?_) (a' := ?_) #[true, true, true, true, true, true, false, false, false, false, false, false, false, false, false, false, false, false, false, false, false, false, false, false, false, false] rfl rfl (by kernel_rfl) (fun _ _ _ h => h) (Or.inl ⟨by rfl, ?_⟩) ?_ ?_
                  rotate_left
                  · intro w'
                    go_simp
                    with_reducible rfl
                  rotate_left
                  · simp only [Act.put, List.setIfInBounds_toArray, List.set_cons_zero, List.set_cons_succ, i64_w, i32_w]
                    rfl
                  refine pure_ (i := 6) (N := some 86) (v := undef) (a' := ?_) #[true, true, true, true, true, true, true, false, false, false, false, false, false, false, false, false, false, false, false, false, false, false, false, false, false, false] rfl rfl (by kernel_rfl) (fun _ _ _ h => h) (Or.inr ⟨by rfl, rfl⟩) ?_ ?_
                  rotate_left
                  · simp only [Act.put, List.setIfInBounds_toArray, List.set_cons_zero, List.set_cons_succ, i64_w, i32_w]
                    rfl
                  refine pure_ (i := 7) (N := some 87) (v := undef) (a' := ?_) #[true, true, true, true, true, true, true, true, false, false, false, false, false, false, false, false, false, false, false, false, false, false, false, false, false, false] rfl rfl (by kernel_rfl) (fun _ _ _ h => h) (Or.inr ⟨by rfl, rfl⟩) ?_ ?_
                  rotate_left
                  · simp only [Act.put, List.setIfInBounds_toArray, List.set_cons_zero, List.set_cons_succ, i64_w, i32_w]
                    rfl
                  refine pure_ (i := 8) (N := some 88) (v := undef) (a' := ?_) #[true, true, true, true, true, true, true, true, true, false, false, false, false, false, false, false, false, false, false, false, false, false, false, false, false, false] rfl rfl (by kernel_rfl) (fun _ _ _ h => h) (Or.inr ⟨by rfl, rfl⟩) ?_ ?_
                  rotate_left
                  · simp only [Act.put, List.setIfInBounds_toArray, List.set_cons_zero, List.set_cons_succ, i64_w, i32_w]
                    rfl
                  refine pure_ (i := 9) (N := some 89) (v := undef) (a' := ?_) #[true, true, true, true, true, true, true, true, true, true, false, false, false, false, false, false, false, false, false, false, false, false, false, false, false, false] rfl rfl (by kernel_rfl) (fun _ _ _ h => h) (Or.inr ⟨by rfl, rfl⟩) ?_ ?_
                  rotate_left
                  · simp only [Act.put, List.setIfInBounds_toArray, List.set_cons_zero, List.set_cons_succ, i64_w, i32_w]
                    rfl
                  refine pure_ (i := 10) (N := some 90) (v := ?_) (a' := ?_) #[true, true, true, true, true, true, true, true, true, true, true, false, false, false, false, false, false, false, false, false, false, false, false, false, false, false] rfl rfl (by kernel_rfl) (fun _ _ _ h => h) (Or.inl ⟨by rfl, ?_⟩) ?_ ?_
                  rotate_left
                  · intro w'
                    go_simp
                    with_reducible rfl
                  rotate_left
                  · simp only [Act.put, List.setIfInBounds_toArray, List.set_cons_zero, List.set_cons_succ, i64_w, i32_w]
                    rfl
                  refine pure_ (i := 11) (N := some 91) (v := ?_) (a' := ?_) #[true, true, true, true, true, true, true, true, true, true, true, true, false, false, false, false, false, false, false, false, false, false, false, false, false, false] rfl rfl (by kernel_rfl) (fun _ _ _ h => h) (Or.inl ⟨by rfl, ?_⟩) ?_ ?_
                  rotate_left
                  · intro w'
                    go_simp
                    with_reducible rfl
                  rotate_left
                  · simp only [Act.put, List.setIfInBounds_toArray, List.set_cons_zero, List.set_cons_succ, i64_w, i32_w]
                    rfl
                  refine pure_ (i := 12) (N := some 92) (v := ?_) (a' := ?_) #[true, true, true, true, true, true, true, true, true, true, true, true, true, false, false, false, false, false, false, false, false, false, false, false, false, false] rfl rfl (by kernel_rfl) (fun _ _ _ h => h) (Or.inl ⟨by rfl, ?_⟩) ?_ ?_
                  rotate_left
                  · intro w'
                    go_simp
                    with_reducible rfl
                  rotate_left
                  · simp only [Act.put, List.setIfInBounds_toArray, List.set_cons_zero, List.set_cons_succ, i64_w, i32_w]
                    rfl
                  refine pure_ (i := 13) (N := some 93) (v := ?_) (a' := ?_) #[true, true, true, true, true, true, true, true, true, true, true, true, true, true, false, false, false, false, false, false, false, false, false, false, false, false] rfl rfl (by kernel_rfl) (fun _ _ _ h => h) (Or.inl ⟨by rfl, ?_⟩) ?_ ?_
                  rotate_left
                  · intro w'
                    go_simp
                    with_reducible rfl
                  rotate_left
                  · simp only [Act.put, List.setIfInBounds_toArray, List.set_cons_zero, List.set_cons_succ, i64_w, i32_w]
                    rfl
                  refine pure_ (i := 14) (N := some 94) (v := ?_) (a' := ?_) #[true, true, true, true, true, true, true, true, true, true, true, true, true, true, true, false, false, false, false, false, false, false, false, false, false, false] rfl rfl (by kernel_rfl) (fun _ _ _ h => h) (Or.inl ⟨by rfl, ?_⟩) ?_ ?_
                  rotate_left
                  · intro w'
                    go_simp
                    with_reducible rfl
                  rotate_left
                  · simp only [Act.put, List.setIfInBounds_toArray, List.set_cons_zero, List.set_cons_succ, i64_w, i32_w]
                    rfl
                  refine pure_ (i := 15) (N := some 95) (v := undef) (a' := ?_) #[true, true, true, true, true, true, true, true, true, true, true, true, true, true, true, true, false, false, false, false, false, false, false, false, false, false] rfl rfl (by kernel_rfl) (fun _ _ _ h => h) (Or.inr ⟨by rfl, rfl⟩) ?_ ?_
                  rotate_left
                  · simp only [Act.put, List.setIfInBounds_toArray, List.set_cons_zero, List.set_cons_succ, i64_w, i32_w]
                    rfl
                  refine pure_ (i := 16) (N := some 96) (v := undef) (a' := ?_) #[true, true, true, true, true, true, true, true, true, true, true, true, true, true, true, true, true, false, false, false, false, false, false, false, false, false] rfl rfl (by kernel_rfl) (fun _ _ _ h => h) (Or.inr ⟨by rfl, rfl⟩) ?_ ?_
                  rotate_left
                  · simp only [Act.put, List.setIfInBounds_toArray, List.set_cons_zero, List.set_cons_succ, i64_w, i32_w]
                    rfl
                  refine pure_ (i := 17) (N := some 97) (v := undef) (a' := ?_) #[true, true, true, true, true, true, true, true, true, true, true, true, true, true, true, true, true, true, false, false, false, false, false, false, false, false] rfl rfl (by kernel_rfl) (fun _ _ _ h => h) (Or.inr ⟨by rfl, rfl⟩) ?_ ?_
                  rotate_left
                  · simp only [Act.put, List.setIfInBounds_toArray, List.set_cons_zero, List.set_cons_succ, i64_w, i32_w]
                    rfl
                  refine pure_ (i := 18) (N := some 98) (v := undef) (a' := ?_) #[true, true, true, true, true, true, true, true, true, true, true, true, true, true, true, true, true, true, true, false, false, false, false, false, false, false] rfl rfl (by kernel_rfl) (fun _ _ _ h => h) (Or.inr ⟨by rfl, rfl⟩) ?_ ?_
                  rotate_left
                  · simp only [Act.put, List.setIfInBounds_toArray, List.set_cons_zero, List.set_cons_succ, i64_w, i32_w]
                    rfl
                  refine pure_ (i := 19) (N := some 99) (v := undef) (a' := ?_) #[true, true, true, true, true, true, true, true, true, true, true, true, true, true, true, true, true, true, true, true, false, false, false, false, false, false] rfl rfl (by kernel_rfl) (fun _ _ _ h => h) (Or.inr ⟨by rfl, rfl⟩) ?_ ?_
                  rotate_left
                  · simp only [Act.put, List.setIfInBounds_toArray, List.set_cons_zero, List.set_cons_succ, i64_w, i32_w]
                    rfl
                  refine pure_ (i := 20) (N := some 100) (v := undef) (a' := ?_) #[true, true, true, true, true, true, true, true, true, true, true, true, true, true, true, true, true, true, true, true, true, false, false, false, false, false] rfl rfl (by kernel_rfl) (fun _ _ _ h => h) (Or.inr ⟨by rfl, rfl⟩) ?_ ?_
                  rotate_left
                  · simp only [Act.put, List.setIfInBounds_toArray, List.set_cons_zero, List.set_cons_succ, i64_w, i32_w]
                    rfl
                  refine pure_ (i := 21) (N := some 101) (v := undef) (a' := ?_) #[true, true, true, true, true, true, true, true, true, true, true, true, true, true, true, true, true, true, true, true, true, true, false, false, false, false] rfl rfl (by kernel_rfl) (fun _ _ _ h => h) (Or.inr ⟨by rfl, rfl⟩) ?_ ?_
                  rotate_left
                  · simp only [Act.put, List.setIfInBounds_toArray, List.set_cons_zero, List.set_cons_succ, i64_w, i32_w]
                    rfl
                  refine pure_ (i := 22) (N := some 102) (v := undef) (a' := ?_) #[true, true, true, true, true, true, true, true, true, true, true, true, true, true, true, true, true, true, true, true, true, true, true, false, false, false] rfl rfl (by kernel_rfl) (fun _ _ _ h => h) (Or.inr ⟨by rfl, rfl⟩) ?_ ?_
                  rotate_left
                  · simp only [Act.put, List.setIfInBounds_toArray, List.set_cons_zero, List.set_cons_succ, i64_w, i32_w]
                    rfl
                  refine pure_ (i := 23) (N := some 103) (v := undef) (a' := ?_) #[true, true, true, true, true, true, true, true, true, true, true, true, true, true, true, true, true, true, true, true, true, true, true, true, false, false] rfl rfl (by kernel_rfl) (fun _ _ _ h => h) (Or.inr ⟨by rfl, rfl⟩) ?_ ?_
                  rotate_left
                  · simp only [Act.put, List.setIfInBounds_toArray, List.set_cons_zero, List.set_cons_succ, i64_w, i32_w]
                    rfl
                  refine pure_ (i := 24) (N := some 104) (v := ?_) (a' := ?_) #[true, true, true, true, true, true, true, true, true, true, true, true, true, true, true, true, true, true, true, true, true, true, true, true, true, false] rfl rfl (by kernel_rfl) (fun _ _ _ h => h) (Or.inl ⟨by rfl, ?_⟩) ?_ ?_
                  rotate_left
                  · intro w'
                    go_simp
                    with_reducible rfl
                  rotate_left
                  · simp only [Act.put, List.setIfInBounds_toArray, List.set_cons_zero, List.set_cons_succ, i64_w, i32_w]
                    rfl
                  refine pure_ (i := 25) (N := some 105) (v := ?_) (a' := ?_) #[true, true, true, true, true, true, true, true, true, true, true, true, true, true, true, true, true, true, true, true, true, true, true, true, true, true] rfl rfl (by kernel_rfl) (fun _ _ _ h => h) (Or.inl ⟨by rfl, ?_⟩) ?_ ?_
                  rotate_left
                  · intro w'
                    go_simp
                    with_reducible rfl
                  rotate_left
                  · simp only [Act.put, List.setIfInBounds_toArray, List.set_cons_zero, List.set_cons_succ, i64_w, i32_w]
                    rfl
                  refine done_ (by kernel_rfl) ?_
                  go_wp2_with fail
                  go_roundw
                  case measure => simp [intOf]; omega
                  case rel => exact ⟨k + 1, by omega, by go_num, HSx, HBx, HOx, HNx⟩
            · have hlt' : ¬ (k : Int) < (b.length : Int) := by omega
              obtain rfl : k = b.length := by omega
              go_wp2_with fail
              refine (keep_held wr w.heap.size g _ _ _ _ _ _ HS.out).mono ?_
              rintro e w7 ⟨v7, l5, rfl, hR5, hl5, hby5, hbits5, hb_⟩
              obtain ⟨A5, c5, e5⟩ := Kd.R_slice hR5
              subst e5
              have HS7 := Aside0.mk (HS.out.below hb_)
              have HB7 := Aside0.mk (below_step HB.out hb_)
              have HO7 := Aside0.mk (HO.out.step (softKept_below hb_))
              have HN7 := Aside0.mk (HN.out.step (softKept_below hb_))
              have HH7 := Aside0.mk (Rd.of_R hR5)
              obtain ⟨h3l, h3b, h3i⟩ := HL3.out
              obtain ⟨h4l, h4b, h4i⟩ := HL4.out
              have HW1 := Aside0.mk (refwithin_true h3b hby5 (by omega) (fun j hj hq => by
                rw [h3i j (by omega)] at hq
                rw [hbits5 j (by omega), getA_append, Option.isSome_or, hq, Bool.or_true]))
              have HW2 := Aside0.mk (refwithin_true hby5 h4b (by omega) (fun j hj hq => by
                rw [hbits5 j (by omega), getA_append, Option.isSome_or] at hq
                rw [h4i j (by omega), getA_append, Option.isSome_or]
                rcases Bool.or_eq_true_iff.1 hq with q | q
                · rw [getA_KB b ks _ _ q, Bool.true_or]
                · rw [q, Bool.or_true]))
              clear hR5 hl5 hby5 hbits5 hb_ HS HB HO HN h3l h3b h3i h4l h4b h4i
              go_wp2_with fail
              refine (keep_known w7).mono ?_
              rintro e w8 ⟨rfl, hb_⟩
              have HS8 := Aside0.mk (HS7.out.below hb_)
              have HB8 := Aside0.mk (below_step HB7.out hb_)
              have HO8 := Aside0.mk (HO7.out.step (softKept_below hb_))
              have HN8 := Aside0.mk (HN7.out.step (softKept_below hb_))
              have HH8 := Aside0.mk (HH7.out.step (softKept_below hb_))
              clear hb_ HS7 HB7 HO7 HN7 HH7
              go_wp2_with fail
              refine (scullerref03_Within.calls 4000 A3 c3 l3 A5 c5 l5 true w8 HO8.out.now.1 HO8.out.now.2 HH8.out.now.1 HH8.out.now.2 HW1.out).mono ?_
              rintro e w9 ⟨rfl, hb_⟩
              have hb_ := hb_.below
              have HS9 := Aside0.mk (HS8.out.below hb_)
              have HB9 := Aside0.mk (below_step HB8.out hb_)
              have HN9 := Aside0.mk (HN8.out.step (softKept_below hb_))
              have HH9 := Aside0.mk (HH8.out.step (softKept_below hb_))
              clear hb_ HS8 HB8 HO8 HN8 HH8
              go_wp2_with fail
              refine (scullerref03_Within.calls 4000 A5 c5 l5 A4 c4 l4 true w9 HH9.out.now.1 HH9.out.now.2 HN9.out.now.1 HN9.out.now.2 HW2.out).mono ?_
              rintro e w10 ⟨rfl, hb_⟩
              have hb_ := hb_.below
              have HS10 := Aside0.mk (HS9.out.below hb_)
              have HB10 := Aside0.mk (below_step HB9.out hb_)
              clear hb_ HS9 HB9 HN9 HH9
              go_wp2_with fail
              refine (keep_loose w10 w.heap.size g _ _ _ _ _ _ HS10.out).mono ?_
              rintro e w11 ⟨he, rfl⟩
              obtain rfl : e = .returned (.int .i64 0) := he
              go_wp2
              go_ret
              exact ⟨rfl, HB10.out⟩
set_option maxRecDepth 100000 in
set_option maxHeartbeats 8000000 in
theorem lasts_long (w : World) (Aa : Option Addr) (ca : Nat) (a : List Int) (Ab : Option Addr) (cb_ : Nat) (b : List Int) (Ak : Option Addr) (ck : Nat) (ks : List Bool)
    (hla : a.length ≤ 140737488351232) (hlb : b.length ≤ 140737488351232) (hl : ¬ a.length + b.length ≤ 60) :
    Calls Try.prog 3 #[.slice Aa a.length ca, .slice Ab b.length cb_, .slice Ak ks.length ck] w fun e w' => e = .returned (.bool true) ∧ Below w.heap.size w w' := by
  have hl' : (a.length : Int) + (b.length : Int) > 60 := by omega
  have hwr : wrap64 ((a.length : Int) + (b.length : Int)) = (a.length : Int) + (b.length : Int) := IntWalk.wrap64_in _ (by omega)
  go_enter Try.func3, Try.ntmps3
  go_wp2_with fail
  refine (keep_known w).mono ?_
  rintro e w1 ⟨rfl, hb_⟩
  have HB := Aside0.mk hb_
  clear hb_
  go_wp2
  go_ret
  exact ⟨rfl, HB.out⟩
/-- What the law KeepLasts computes. -/
def scullerlaw15_KeepLasts.f (a b : List Int) (ks : List Bool) : Option Bool := if (a.length ≤ 140737488351232 ∧ b.length ≤ 140737488351232) ∧ (∀ x ∈ a, (Lit.int .u8 x).wf = true) ∧ (∀ x ∈ b, (Lit.int .u8 x).wf = true) then some true else none
theorem scullerlaw15_KeepLasts.f_true (a b : List Int) (ks : List Bool) (h : a.length ≤ 140737488351232 ∧ b.length ≤ 140737488351232) (ha : ∀ x ∈ a, (Lit.int .u8 x).wf = true) (hb : ∀ x ∈ b, (Lit.int .u8 x).wf = true) : scullerlaw15_KeepLasts.f a b ks = some true := by
  unfold scullerlaw15_KeepLasts.f
  rw [if_pos ⟨h, ha, hb⟩]
theorem scullerlaw15_KeepLasts.calls (Aa : Option Addr) (ca : Nat) (a : List Int) (Ab : Option Addr) (cb_ : Nat) (b : List Int) (Ak : Option Addr) (ck : Nat) (ks : List Bool) (r : Bool) (w : World)
    (hra : Kd.C (Kd.int .u8) w Aa a.length a) (hca : a.length ≤ ca) (hrb : Kd.C (Kd.int .u8) w Ab b.length b) (hcb : b.length ≤ cb_) (hrk : Kd.C Kd.bool w Ak ks.length ks) (hck : ks.length ≤ ck) (h : scullerlaw15_KeepLasts.f a b ks = some r) :
    Calls Try.prog 3 #[.slice Aa a.length ca, .slice Ab b.length cb_, .slice Ak ks.length ck] w fun e w' => e = .returned (.bool r) ∧ Below w.heap.size w w' := by
  unfold scullerlaw15_KeepLasts.f at h
  split at h
  · rename_i hh
    obtain rfl := Option.some.inj h
    by_cases hl : a.length + b.length ≤ 60
    · exact lasts_walk w Aa ca a Ab cb_ b Ak ck ks hra hca hrb hcb hrk hck (Bytes.of_wf hh.2.1) (Bytes.of_wf hh.2.2) hl
    · exact lasts_long w Aa ca a Ab cb_ b Ak ck ks hh.1.1 hh.1.2 hl
  · cases h
end Go.Proofs.Ytliohoalackhiaa.E
