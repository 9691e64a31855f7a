/- pack.kinds makes a map of what each kind may have; pack.right says whether a datagram may be: for every datagram, in whatever memory. -/
import Derived.Maps.OwnSet
import Derived.Shelf.RegionOpen
import Derived.WalkKit
import Derived.Lib.Hide
import Derived.OpenShut
import Derived.WalkLawsBesides
import Derived.Test.YtliohoalackhiaaZIx0
namespace Go.Proofs.Ytliohoalackhiaa.I
open Go.ChangeMaps hiding rd
open Go.RowKit Go.Maps Go.Proofs.YtliohoalackhiaaW.PrintWords Go.Proofs.YtliohoalackhiaaW.PrintLast Go.Proofs.YtliohoalackhiaaW.PrintMore
set_option linter.unusedVariables false
set_option linter.unusedSimpArgs false
/-- 'm[k] = v' of a map's literal, at the operation -/
theorem wpList_insert_own {H : Type} {P : Program} (w : World) {ops : Array Oper} {rest : List Oper} {o : Oper} {a : Act} {Q : Exit → Act → World → Prop}
    (hg : o.guard = none) (m x v : Operand) (t : TypeId) (hop : o.op = Op.insert t m x v)
    (k e : TypeId) (K : Keyed P k) (ht : P.underlying t = some (.map k e)) (R : Value → Option (DataW H × List MemPlace)) (b n : Nat) (D : DataW H)
    (hm : a.eval m = .map (some b)) (hown : w.ownsMap P k R b n D) (hn : n < maxLen) (key val : Value) (kl : Lit) (hx : a.eval x = key) (hv : a.eval v = val) (hkey : keyOf P k key = some kl)
    (d : DataW H) (ps : List MemPlace) (hval : R val = some (d, ps))
    (hK : ∀ w', w'.ownsMap P k R b (n + 1) (D.put kl d) → w.grownBy w' (some b) → wpList P ops Q rest (a.put o.dst undef) w') :
    wpList P ops Q (o :: rest) a w := by
  refine wpList_plain hg fun K' hK' => ?_
  obtain ⟨w', hrun, r1, r2⟩ := hown.update K ht hn hkey hval
  unfold Oper.wp
  simp [execOp, hop, hm, hx, hv, hrun, Result.andThen]
  exact hK' _ _ (hK w' r1 r2)
/-- a map's elements, each as it is -/
def asIs (v : Value) : Option (DataW Value × List MemPlace) := some (.held v, [])
theorem ikey {t : Nat} {q : IntKind} (ht : Try.prog.underlying t = some (.int q)) (x : Int) (h : (Lit.int q x).wf = true) : keyOf Try.prog t (.int q x) = some (.int q x) := keyOf_int_mk ht h
def hasV (s b : Int) : Value := .agg #[.int .i64 s, .int .i64 b]
def kindD : List (Int × Value) → DataW Value
  | [] => .map []
  | (k, v) :: t => (kindD t).put (.int .i64 k) (.held v)
def kindL : List (Int × Value) := [(8, hasV 0 0), (7, hasV 0 0), (6, hasV 0 0), (5, hasV 0 0), (4, hasV 0 64), (3, hasV 0 64), (2, hasV 0 64), (1, hasV 4 0)]
set_option maxRecDepth 100000 in
set_option maxHeartbeats 4000000 in
theorem kinds_any (w : World) : Calls Try.prog 149 #[] w fun e w' => ∃ b, e = .returned (.map (some b)) ∧ w.heap.size ≤ b ∧ w'.ownsMap Try.prog 3 asIs b 8 (kindD kindL) ∧ Below w.heap.size w w' := by
  have hmm := @run_makeMap Try.prog
  have law : Keyed Try.prog 3 := int_keyed Try.underlying3
  go_enter Try.func149, Try.ntmps149
  have hown := World.ownsMap_made w Try.prog 3 asIs
  have hB : Below w.heap.size w (w.alloc (.map #[] 0)) := (Below.refl _ _).alloc (Nat.le_refl _) _
  have HO := Aside0.mk hown
  have HB := Aside0.mk hB
  clear hown hB
  go_wp2_with (first | (refine wpList_insert_own _ rfl _ _ _ 190 rfl 3 188 law Try.underlying190 asIs w.heap.size _ _ rfl HO.out (by unfold maxLen; omega) _ _ _ rfl rfl (ikey Try.underlying3 _ (by decide)) _ [] rfl ?_; intro w1 h1 g1; have n0_ := Aside0.mk h1; have n1_ := Aside0.mk (HB.out.grown g1 HB.out.size (fun k e => by cases e; exact Nat.le_refl _)); clear HO HB h1 g1; have HO := n0_; have HB := n1_; clear n0_ n1_))
  go_ret
  exact ⟨_, rfl, Nat.le_refl _, HO.out, HB.out⟩
theorem kindD_map : ∀ l, IsMap (kindD l)
  | [] => ⟨[], rfl⟩
  | (k, v) :: t => (kindD_map t).put _ _
theorem kindD_at (k : Int) (z : DataW Value) : ∀ l : List (Int × Value), (kindD l).atKey (.int .i64 k) z = match l.find? (fun p => p.1 == k) with | some p => .held p.2 | none => z
  | [] => rfl
  | (j, v) :: t => by
    by_cases h : j = k
    · subst h
      rw [kindD, atKey_put_same (kindD_map t) (by trivial)]
      simp
    · rw [kindD, atKey_put_other (fun e => h (by cases e; rfl)), kindD_at k z t]
      have : ((j, v).1 == k) = false := beq_eq_false_iff_ne.mpr h
      rw [List.find?_cons, this]
theorem kindD_has (k : Int) : ∀ l : List (Int × Value), Maps.has (kindD l) (.int .i64 k) = l.any (fun p => p.1 == k)
  | [] => rfl
  | (j, v) :: t => by
    by_cases h : j = k
    · subst h
      rw [kindD, has_put_same (kindD_map t) (by trivial)]
      simp
    · rw [kindD, has_put_other (fun e => h (by cases e; rfl)), kindD_has k t]
      have : ((j, v).1 == k) = false := beq_eq_false_iff_ne.mpr h
      rw [List.any_cons, this]; rfl
/-- how many sizes, and bytes, a kind may have -/
def hasS (k : Int) : Int := if k = 1 then 4 else 0
def hasB (k : Int) : Int := if 2 ≤ k ∧ k ≤ 4 then 64 else 0
def hasK (k : Int) : Bool := decide (1 ≤ k ∧ k ≤ 8)
theorem kinds_cases (k : Int) : k = 8 ∨ k = 7 ∨ k = 6 ∨ k = 5 ∨ k = 4 ∨ k = 3 ∨ k = 2 ∨ k = 1 ∨ ¬ (1 ≤ k ∧ k ≤ 8) := by omega
theorem kinds_found (k : Int) : (match kindL.find? (fun p => p.1 == k) with | some p => DataW.held p.2 | none => DataW.held (hasV 0 0)) = DataW.held (hasV (hasS k) (hasB k)) ∧ kindL.any (fun p => p.1 == k) = hasK k := by
  rcases kinds_cases k with rfl | rfl | rfl | rfl | rfl | rfl | rfl | rfl | h
  all_goals try exact ⟨rfl, rfl⟩
  have e : ∀ j : Int, 1 ≤ j → j ≤ 8 → (j == k) = false := fun j h1 h2 => beq_eq_false_iff_ne.mpr (by omega)
  have hs : hasS k = 0 := if_neg (by omega)
  have hb : hasB k = 0 := if_neg (by omega)
  have hk : hasK k = false := decide_eq_false h
  rw [hs, hb, hk]
  simp only [kindL, List.find?_cons, List.any_cons, List.find?_nil, List.any_nil, e 8 (by omega) (by omega), e 7 (by omega) (by omega), e 6 (by omega) (by omega), e 5 (by omega) (by omega), e 4 (by omega) (by omega), e 3 (by omega) (by omega), e 2 (by omega) (by omega), e 1 (by omega) (by omega), Bool.or_false, and_self]
theorem kinds_look {W : World} {b : Nat} (h : W.ownsMap Try.prog 3 asIs b 8 (kindD kindL)) (k : Int) (hk : (Lit.int .i64 k).wf = true) :
    (Instr.lookup 190 (.map (some b)) (.int .i64 k) true).run Try.prog W = .ok (.tuple #[.agg #[.int .i64 (hasS k), .int .i64 (hasB k)], .bool (hasK k)]) W := by
  have law : Keyed Try.prog 3 := int_keyed Try.underlying3
  obtain ⟨v, ps, hrun, hv⟩ := h.look_ok law Try.underlying190 (show (zeroValue 188).run Try.prog W = .ok (.agg #[.int .i64 0, .int .i64 0]) W from Try.zeroValue188 W) (zd := .held (hasV 0 0)) (zp := []) rfl (ikey Try.underlying3 k hk)
  obtain ⟨e1, e2⟩ := kinds_found k
  rw [kindD_at, e1] at hv
  rw [kindD_has, e2] at hrun
  have : v = hasV (hasS k) (hasB k) := by
    unfold asIs at hv
    simp only [Option.some.injEq, Prod.mk.injEq, DataW.held.injEq] at hv
    exact hv.1
  subst this
  exact hrun
/-- a size that may not be -/
def badS (n : Int) : Bool := decide (n < 0) || decide (4096 < n)
theorem bad_any (n : Int) (w : World) : Calls Try.prog 151 #[.int .i64 n] w fun e w' => e = .returned (.bool (badS n)) ∧ w = w' := by
  by_cases h1 : n < 0
  · have e : badS n = true := by unfold badS; rw [decide_eq_true h1]; rfl
    have h1' : decide (n < 0) = true := decide_eq_true h1
    rw [e]
    clear e h1
    go_enter Try.func151, Try.ntmps151
    go_wp2
    go_ret
    exact ⟨rfl, rfl⟩
  · have h1' : decide (n < 0) = false := decide_eq_false h1
    obtain ⟨q, hq⟩ : ∃ q, decide (4096 < n) = q := ⟨_, rfl⟩
    have e : badS n = q := by unfold badS; rw [h1', hq]; rfl
    rw [e]
    clear e h1
    go_enter Try.func151, Try.ntmps151
    go_wp2
    go_ret
    exact ⟨rfl, rfl⟩
/-- the first size, from k on, that may not be -/
def badAt (l : List Int) : Nat → Nat → Int
  | _, 0 => -1
  | k, n + 1 => if badS (rd l (k : Int)) = true then (k : Int) else badAt l (k + 1) n
theorem badAt_any (l : List Int) : ∀ n k, k + n = l.length → decide (0 ≤ badAt l k n) = (l.drop k).any badS := by
  intro n
  induction n with
  | zero => intro k hk; rw [List.drop_of_length_le (by omega)]; rfl
  | succ n ih =>
    intro k hk
    have hd : l.drop k = rd l (k : Int) :: l.drop (k + 1) := by
      unfold rd
      rw [Int.toNat_natCast, List.drop_eq_getElem_cons (by omega), List.getD_eq_getElem?_getD, List.getElem?_eq_getElem (show k < l.length by omega)]; rfl
    rw [hd, List.any_cons, badAt]
    by_cases h : badS (rd l (k : Int)) = true
    · rw [if_pos h, h, Bool.true_or, decide_eq_true (by omega)]
    · rw [if_neg h, ih (k + 1) (by omega), Bool.eq_false_iff.mpr h, Bool.false_or]
set_option maxRecDepth 100000 in
set_option maxHeartbeats 2000000 in
theorem index_any (A : Option Addr) (c : Nat) (l : List Int) (w : World) (hr : Kd.C (Kd.int .i64) w A l.length l) :
    Calls Try.prog 158 #[.slice A l.length c, .func (.func 151) #[] #[]] w fun e w' => e = .returned (.int .i64 (badAt l 0 l.length)) ∧ w = w' := by
  have HR := Aside0.mk hr
  have hmx : (l.length : Int) ≤ 9223372036854775807 := by have := (Kd.reads_of_C (d := (0 : Int)) hr).2.1; unfold maxLen at this; omega
  clear hr
  obtain ⟨r, hr⟩ : ∃ r, badAt l 0 l.length = r := ⟨_, rfl⟩
  have HR0 := Aside0.mk hr
  rw [hr]
  clear hr
  go_enter Try.func158, Try.ntmps158
  go_wp2_with fail
  go_loopg [8] l.length (fun kq v8 w' => ∃ i : Nat, v8 = .int .i64 i ∧ Aside0 (i + kq = l.length) ∧ Aside0 (badAt l i kq = r) ∧ w' = w)
  case atStart => exact ⟨0, rfl, ⟨by omega⟩, HR0, rfl⟩
  case round =>
    clear HR0
    obtain ⟨i, rfl, Hi, HB, rfl⟩ := hrel
    have hi := Hi.out
    cases gk with
    | zero =>
      obtain rfl : i = l.length := by omega
      have e : r = -1 := HB.out.symm
      subst e
      clear Hi hi HB
      go_wp2
      go_ret
      exact ⟨rfl, rfl⟩
    | succ kk =>
      have hil : i < l.length := by omega
      have hlt : (i : Int) < (l.length : Int) := by omega
      obtain ⟨ad, ead, hcx⟩ := Kd.at_int HR.out (i : Int) (by omega) (by omega)
      rw [Int.toNat_natCast] at hcx
      have hb := HB.out
      rw [badAt] at hb
      obtain ⟨x, hx⟩ : ∃ x, rd l (i : Int) = x := ⟨_, rfl⟩
      rw [hx] at hcx hb
      clear hx HB
      subst ead
      obtain ⟨q, hq⟩ : ∃ q, badS x = q := ⟨_, rfl⟩
      have HC : ∀ w : World, Calls Try.prog 151 #[.int .i64 x] w fun e w' => e = .returned (.bool q) ∧ w = w' := fun w => by rw [← hq]; exact bad_any x w
      rw [hq] at hb
      clear hq
      cases q with
      | true =>
        rw [if_pos rfl] at hb
        subst hb
        have HC2 := Aside0.mk HC
        clear HC Hi hi
        go_wp2_with (go_at_call 151; refine (HC2.out _).mono ?_; rintro e w' ⟨rfl, rfl⟩)
        go_ret
        exact ⟨rfl, rfl⟩
      | false =>
        rw [if_neg (by simp)] at hb
        have HE := Aside0.mk hb
        have HC2 := Aside0.mk HC
        clear HC hb
        go_wp2_with (go_at_call 151; refine (HC2.out _).mono ?_; rintro e w' ⟨rfl, rfl⟩)
        go_roundg kk
        case measure => omega
        case rel => exact ⟨i + 1, by first | rfl | (simp; done) | go_num, ⟨by omega⟩, HE, rfl⟩
theorem contains_any (A : Option Addr) (c : Nat) (l : List Int) (w : World) (hr : Kd.C (Kd.int .i64) w A l.length l) :
    Calls Try.prog 150 #[.slice A l.length c, .func (.func 151) #[] #[]] w fun e w' => e = .returned (.bool (l.any badS)) ∧ w = w' := by
  obtain ⟨r, hr0⟩ : ∃ r, badAt l 0 l.length = r := ⟨_, rfl⟩
  have e := badAt_any l l.length 0 (by omega)
  rw [List.drop_zero, hr0] at e
  rw [← e]
  have HC := index_any A c l w hr
  rw [hr0] at HC
  have HC2 := Aside0.mk HC
  clear HC hr e hr0
  go_enter Try.func150, Try.ntmps150
  go_wp2_with fail
  refine HC2.out.mono ?_
  rintro e w' ⟨rfl, rfl⟩
  go_wp2
  go_ret
  exact ⟨rfl, rfl⟩
/-- the ways through the tests -/
def rightWay (a0 m M s5 s6 : Int) (bad : Bool) : Bool := hasK a0 && !decide (m < 0) && !decide (65535 < M) && !decide (hasS a0 < s5) && !decide (hasB a0 < s6) && !bad
theorem rightWay_split {a0 m M s5 s6 : Int} {bad r : Bool} (h : rightWay a0 m M s5 s6 bad = r) :
    (hasK a0 = false ∧ r = false) ∨ (hasK a0 = true ∧ decide (m < 0) = true ∧ r = false) ∨ (hasK a0 = true ∧ decide (m < 0) = false ∧ decide (65535 < M) = true ∧ r = false) ∨
    (hasK a0 = true ∧ decide (m < 0) = false ∧ decide (65535 < M) = false ∧ decide (hasS a0 < s5) = true ∧ r = false) ∨ (hasK a0 = true ∧ decide (m < 0) = false ∧ decide (65535 < M) = false ∧ decide (hasS a0 < s5) = false ∧ decide (hasB a0 < s6) = true ∧ r = false) ∨
    (hasK a0 = true ∧ decide (m < 0) = false ∧ decide (65535 < M) = false ∧ decide (hasS a0 < s5) = false ∧ decide (hasB a0 < s6) = false ∧ (!bad) = r) := by
  unfold rightWay at h
  cases h1 : hasK a0 <;> cases h2 : decide (m < 0) <;> cases h3 : decide (65535 < M) <;> cases h4 : decide (hasS a0 < s5) <;> cases h5 : decide (hasB a0 < s6) <;> rw [h1, h2, h3, h4, h5] at h <;> simp at h <;> simp [h]
set_option maxRecDepth 100000 in
set_option maxHeartbeats 8000000 in
theorem right_any (a0 a1 a2 a3 a4 : Int) (A5 : Option Addr) (c5 : Nat) (l5 : List Int) (A6 : Option Addr) (c6 : Nat) (l6 : List Int) (w : World) (hwf : (Lit.int .i64 a0).wf = true) (m M : Int) (hm : (if a3 < a2 then a3 else a2) = m) (hM : (if a2 < a3 then a3 else a2) = M) (r : Bool) (hr : Kd.C (Kd.int .i64) w A5 l5.length l5)
    (hway : rightWay a0 m M l5.length l6.length (l5.any badS) = r) :
    Calls Try.prog 125 #[.agg #[.int .i64 a0, .int .u64 a1, .int .i64 a2, .int .i64 a3, .int .u32 a4, .slice A5 l5.length c5, .slice A6 l6.length c6]] w fun e w' => e = .returned (.bool r) ∧ Below w.heap.size w w' := by
  have HR := Aside0.mk hr
  obtain ⟨bad, hbad⟩ : ∃ b, l5.any badS = b := ⟨_, rfl⟩
  rw [hbad] at hway
  have HW := Aside0.mk (rightWay_split hway)
  have HC : Aside0 (∀ W, Below w.heap.size w W → Calls Try.prog 150 #[.slice A5 l5.length c5, .func (.func 151) #[] #[]] W fun e w' => e = .returned (.bool bad) ∧ W = w') := ⟨fun W hb => by rw [← hbad]; exact contains_any A5 c5 l5 W (Kd.C_below HR.out hb)⟩
  have HMM := Aside0.mk hm
  have HMX := Aside0.mk hM
  clear hr hbad hway hm hM
  go_enter Try.func125, Try.ntmps125
  go_wp2_with fail
  have HK := Aside0.mk (blk_drew (blk_new w (.cells #[.int .i64 a0, .int .u64 a1, .int .i64 a2, .int .i64 a3, .int .u32 a4, .slice A5 l5.length c5, .slice A6 l6.length c6] 56)))
  have HB := Aside0.mk (below_drew1 (below_alloc (Below.refl w.heap.size w) (.cells #[.int .i64 a0, .int .u64 a1, .int .i64 a2, .int .i64 a3, .int .u32 a4, .slice A5 l5.length c5, .slice A6 l6.length c6] 56)))
  refine start_ (n := 10) (S := fun w' => w'.cell? ⟨w.heap.size, 0, none⟩ = some (.int .i64 a0)) (ds := []) #[false, false, false, false, false, false, false, false, false, false] (by kernel_rfl) rfl rfl ((blk_cell HK.out 0).trans rfl) (fun hHeld => ?_)
  generalize (w.alloc (.cells #[.int .i64 a0, .int .u64 a1, .int .i64 a2, .int .i64 a3, .int .u32 a4, .slice A5 l5.length c5, .slice A6 l6.length c6] 56)).drew = W1 at HK HB hHeld ⊢
  refine pure_ (i := 1) (N := some 7) (v := ?_) (a' := ?_) #[false, true, false, false, false, false, false, false, false, false] rfl rfl (by kernel_rfl) (fun _ _ _ h => h) (Or.inl ⟨by rfl, ?_⟩) ?_ ?_
  rotate_left
  · intro w'
    go_simp
    with_reducible rfl
  rotate_left
  · simp only [Act.put, List.setIfInBounds_toArray, List.set_cons_zero, List.set_cons_succ, i64_w, i32_w]
    rfl
  refine take_ (i := 2) (N := some 8) (v := ?_) (a' := ?_) #[false, true, true, false, false, false, false, false, false, false] rfl rfl (by kernel_rfl) (fun _ _ _ h => h) (Or.inl ⟨by rfl, ?_⟩) hHeld ?_ ?_
  rotate_left
  · intro w' s0
    go_simp
    with_reducible rfl
  rotate_left
  · simp only [Act.put, List.setIfInBounds_toArray, List.set_cons_zero, List.set_cons_succ, i64_w, i32_w]
    rfl
  refine join_ (σ := Nat × Nat) 2 #[true, true, true, true, true, true, true, true, false, false] (fun s => [(6, .map (some s.1)), (9, .tuple #[.agg #[.int .i64 (hasS a0), .int .i64 (hasB a0)], .bool (hasK a0)]), (3, .pointer (some ⟨s.2, 0, none⟩)), (5, .tuple #[.agg #[.int .i64 (hasS a0), .int .i64 (hasB a0)], .bool (hasK a0)]), (10, .agg #[.int .i64 (hasS a0), .int .i64 (hasB a0)]), (11, .bool (hasK a0))]) (fun s w' => w'.heap[w.heap.size]? = some (.cells #[.int .i64 a0, .int .u64 a1, .int .i64 a2, .int .i64 a3, .int .u32 a4, .slice A5 l5.length c5, .slice A6 l6.length c6] 56 (0, 0)) ∧ w'.heap[s.2]? = some (.cells #[.int .i64 0, .int .i64 0] 188 (0, 0)) ∧ Below w.heap.size w w' ∧ w.heap.size < s.2) ?_ ?_
  rotate_left
  · intro hCont
    refine two_ (i := 0) (j := 7) (Ni := some 6) (Nj := some 3) #[true, true, true, false, false, false, false, false, false, false] #[false, true, true, false, false, false, false, true, false, false] rfl rfl rfl rfl (by kernel_rfl) (by decide) (by decide) (fun K hK => ?_) (fun K hK => ?_)
    · skip
      refine goes_ Try.func149 (by kernel_rfl) rfl #[] (by rfl) rfl rfl (by first | (simp only [List.map_toArray, List.map_cons, List.map_nil]; done) | (simp only [List.map_toArray, List.map_cons, List.map_nil]; rfl)) ?_
      with_reducible refine (kinds_any _).mono ?_
      rintro e w3 ⟨mb, rfl, hmb, hm, hb⟩
      refine ⟨_, rfl, ?_⟩
      have n0_ := Aside0.mk (blk_below HK.out hb)
      have n1_ := Aside0.mk (below_step HB.out hb)
      have HM := Aside0.mk hm
      clear HK HB hb hm hmb
      have HK := n0_
      have HB := n1_
      clear n0_ n1_
      refine hK.out _ _ ((blk_cell HK.out 0).trans rfl) (fun hHeld => ?_)
      clear hK K
      refine norm_ (a' := ?_) ?_ ?_
      rotate_left
      · show Act.put _ (some 6) _ = _
        simp only [Act.put, List.setIfInBounds_toArray, List.set_cons_zero, List.set_cons_succ, i64_w, i32_w]
        rfl
      refine two_ (i := 3) (j := 7) (Ni := some 9) (Nj := some 3) #[true, true, true, true, false, false, false, false, false, false] #[true, true, true, false, false, false, false, true, false, false] rfl rfl rfl rfl (by kernel_rfl) (by decide) (by decide) (fun K hK => ?_) (fun K hK => ?_)
      · skip
        have hl := kinds_look HM.out a0 hwf
        refine value_ (w1 := ?_) (v := ?_) (by rfl) rfl ?_ ?_
        rotate_left 2
        · go_simp
          constructor
          · rfl
          · rfl
        clear hl
        refine hK.out _ _ ((blk_cell HK.out 0).trans rfl) (fun hHeld => ?_)
        clear hK K
        refine norm_ (a' := ?_) ?_ ?_
        rotate_left
        · show Act.put _ (some 9) _ = _
          simp only [Act.put, List.setIfInBounds_toArray, List.set_cons_zero, List.set_cons_succ, i64_w, i32_w]
          rfl
        refine pure_ (i := 4) (N := some 5) (v := ?_) (a' := ?_) #[true, true, true, true, true, false, false, false, false, false] rfl rfl (by kernel_rfl) (fun _ _ _ h => h) (Or.inl ⟨by rfl, ?_⟩) ?_ ?_
        rotate_left
        · intro w'
          go_simp
          with_reducible rfl
        rotate_left
        · simp only [Act.put, List.setIfInBounds_toArray, List.set_cons_zero, List.set_cons_succ, i64_w, i32_w]
          rfl
        refine pure_ (i := 5) (N := some 10) (v := ?_) (a' := ?_) #[true, true, true, true, true, true, false, false, false, false] rfl rfl (by kernel_rfl) (fun _ _ _ h => h) (Or.inl ⟨by rfl, ?_⟩) ?_ ?_
        rotate_left
        · intro w'
          go_simp
          with_reducible rfl
        rotate_left
        · simp only [Act.put, List.setIfInBounds_toArray, List.set_cons_zero, List.set_cons_succ, i64_w, i32_w]
          rfl
        refine pure_ (i := 6) (N := some 11) (v := ?_) (a' := ?_) #[true, true, true, true, true, true, true, false, false, false] rfl rfl (by kernel_rfl) (fun _ _ _ h => h) (Or.inl ⟨by rfl, ?_⟩) ?_ ?_
        rotate_left
        · intro w'
          go_simp
          with_reducible rfl
        rotate_left
        · simp only [Act.put, List.setIfInBounds_toArray, List.set_cons_zero, List.set_cons_succ, i64_w, i32_w]
          rfl
        refine one_ (i := 7) (N := some 3) #[true, true, true, true, true, true, true, true, false, false] rfl rfl (by kernel_rfl) (by decide) (fun K hK => ?_)
        have HL := Aside0.mk (blk_lt HK.out)
        refine value_ (w1 := ?_) (v := ?_) (by rfl) rfl ?_ ?_
        rotate_left 2
        · go_simp
          constructor
          · rfl
          · rfl
        have HA := Aside0.mk (blk_new w3 (.cells #[.int .i64 0, .int .i64 0] 188))
        have n0_ := Aside0.mk (blk_alloc HK.out (.cells #[.int .i64 0, .int .i64 0] 188))
        have n1_ := Aside0.mk (below_alloc HB.out (.cells #[.int .i64 0, .int .i64 0] 188))
        clear HK HB
        have HK := n0_
        have HB := n1_
        clear n0_ n1_
        refine hK.out _ _ ((blk_cell HK.out 0).trans rfl) (fun hHeld => ?_)
        clear hK K
        refine norm_ (a' := ?_) ?_ ?_
        rotate_left
        · show Act.put _ (some 3) _ = _
          simp only [Act.put, List.setIfInBounds_toArray, List.set_cons_zero, List.set_cons_succ, i64_w, i32_w]
          rfl
        exact norm_ (by simp only [putAll, Act.put, List.setIfInBounds_toArray, List.set_cons_zero, List.set_cons_succ]) (hCont (mb, w3.heap.size) _ ⟨HK.out, HA.out, HB.out, HL.out⟩)
      · skip
        have HL := Aside0.mk (blk_lt HK.out)
        refine value_ (w1 := ?_) (v := ?_) (by rfl) rfl ?_ ?_
        rotate_left 2
        · go_simp
          constructor
          · rfl
          · rfl
        have HA := Aside0.mk (blk_new w3 (.cells #[.int .i64 0, .int .i64 0] 188))
        have n0_ := Aside0.mk (blk_alloc HK.out (.cells #[.int .i64 0, .int .i64 0] 188))
        have n1_ := Aside0.mk (below_alloc HB.out (.cells #[.int .i64 0, .int .i64 0] 188))
        have n2_ := Aside0.mk (World.ownsMap.alloc HM.out (.cells #[.int .i64 0, .int .i64 0] 188))
        clear HK HB HM
        have HK := n0_
        have HB := n1_
        have HM := n2_
        clear n2_
        clear n0_ n1_
        refine hK.out _ _ ((blk_cell HK.out 0).trans rfl) (fun hHeld => ?_)
        clear hK K
        refine norm_ (a' := ?_) ?_ ?_
        rotate_left
        · show Act.put _ (some 3) _ = _
          simp only [Act.put, List.setIfInBounds_toArray, List.set_cons_zero, List.set_cons_succ, i64_w, i32_w]
          rfl
        refine one_ (i := 3) (N := some 9) #[true, true, true, true, false, false, false, true, false, false] rfl rfl (by kernel_rfl) (by decide) (fun K hK => ?_)
        have hl := kinds_look HM.out a0 hwf
        refine value_ (w1 := ?_) (v := ?_) (by rfl) rfl ?_ ?_
        rotate_left 2
        · go_simp
          constructor
          · rfl
          · rfl
        clear hl
        refine hK.out _ _ ((blk_cell HK.out 0).trans rfl) (fun hHeld => ?_)
        clear hK K
        refine norm_ (a' := ?_) ?_ ?_
        rotate_left
        · show Act.put _ (some 9) _ = _
          simp only [Act.put, List.setIfInBounds_toArray, List.set_cons_zero, List.set_cons_succ, i64_w, i32_w]
          rfl
        refine pure_ (i := 4) (N := some 5) (v := ?_) (a' := ?_) #[true, true, true, true, true, false, false, true, false, false] rfl rfl (by kernel_rfl) (fun _ _ _ h => h) (Or.inl ⟨by rfl, ?_⟩) ?_ ?_
        rotate_left
        · intro w'
          go_simp
          with_reducible rfl
        rotate_left
        · simp only [Act.put, List.setIfInBounds_toArray, List.set_cons_zero, List.set_cons_succ, i64_w, i32_w]
          rfl
        refine pure_ (i := 5) (N := some 10) (v := ?_) (a' := ?_) #[true, true, true, true, true, true, false, true, false, false] rfl rfl (by kernel_rfl) (fun _ _ _ h => h) (Or.inl ⟨by rfl, ?_⟩) ?_ ?_
        rotate_left
        · intro w'
          go_simp
          with_reducible rfl
        rotate_left
        · simp only [Act.put, List.setIfInBounds_toArray, List.set_cons_zero, List.set_cons_succ, i64_w, i32_w]
          rfl
        refine pure_ (i := 6) (N := some 11) (v := ?_) (a' := ?_) #[true, true, true, true, true, true, true, true, false, false] rfl rfl (by kernel_rfl) (fun _ _ _ h => h) (Or.inl ⟨by rfl, ?_⟩) ?_ ?_
        rotate_left
        · intro w'
          go_simp
          with_reducible rfl
        rotate_left
        · simp only [Act.put, List.setIfInBounds_toArray, List.set_cons_zero, List.set_cons_succ, i64_w, i32_w]
          rfl
        exact norm_ (by simp only [putAll, Act.put, List.setIfInBounds_toArray, List.set_cons_zero, List.set_cons_succ]) (hCont (mb, w3.heap.size) _ ⟨HK.out, HA.out, HB.out, HL.out⟩)
    · skip
      have HL := Aside0.mk (blk_lt HK.out)
      refine value_ (w1 := ?_) (v := ?_) (by rfl) rfl ?_ ?_
      rotate_left 2
      · go_simp
        constructor
        · rfl
        · rfl
      have HA := Aside0.mk (blk_new W1 (.cells #[.int .i64 0, .int .i64 0] 188))
      have n0_ := Aside0.mk (blk_alloc HK.out (.cells #[.int .i64 0, .int .i64 0] 188))
      have n1_ := Aside0.mk (below_alloc HB.out (.cells #[.int .i64 0, .int .i64 0] 188))
      clear HK HB
      have HK := n0_
      have HB := n1_
      clear n0_ n1_
      refine hK.out _ _ ((blk_cell HK.out 0).trans rfl) (fun hHeld => ?_)
      clear hK K
      refine norm_ (a' := ?_) ?_ ?_
      rotate_left
      · show Act.put _ (some 3) _ = _
        simp only [Act.put, List.setIfInBounds_toArray, List.set_cons_zero, List.set_cons_succ, i64_w, i32_w]
        rfl
      refine one_ (i := 0) (N := some 6) #[true, true, true, false, false, false, false, true, false, false] rfl rfl (by kernel_rfl) (by decide) (fun K hK => ?_)
      refine goes_ Try.func149 (by kernel_rfl) rfl #[] (by rfl) rfl rfl (by first | (simp only [List.map_toArray, List.map_cons, List.map_nil]; done) | (simp only [List.map_toArray, List.map_cons, List.map_nil]; rfl)) ?_
      with_reducible refine (kinds_any _).mono ?_
      rintro e w3 ⟨mb, rfl, hmb, hm, hb⟩
      refine ⟨_, rfl, ?_⟩
      have n0_ := Aside0.mk (blk_below HK.out hb)
      have n1_ := Aside0.mk (below_step HB.out hb)
      have HM := Aside0.mk hm
      have n2_ := Aside0.mk (blk_below HA.out hb)
      clear HK HB HA hb hm hmb
      have HK := n0_
      have HB := n1_
      have HA := n2_
      clear n2_
      clear n0_ n1_
      refine hK.out _ _ ((blk_cell HK.out 0).trans rfl) (fun hHeld => ?_)
      clear hK K
      refine norm_ (a' := ?_) ?_ ?_
      rotate_left
      · show Act.put _ (some 6) _ = _
        simp only [Act.put, List.setIfInBounds_toArray, List.set_cons_zero, List.set_cons_succ, i64_w, i32_w]
        rfl
      refine one_ (i := 3) (N := some 9) #[true, true, true, true, false, false, false, true, false, false] rfl rfl (by kernel_rfl) (by decide) (fun K hK => ?_)
      have hl := kinds_look HM.out a0 hwf
      refine value_ (w1 := ?_) (v := ?_) (by rfl) rfl ?_ ?_
      rotate_left 2
      · go_simp
        constructor
        · rfl
        · rfl
      clear hl
      refine hK.out _ _ ((blk_cell HK.out 0).trans rfl) (fun hHeld => ?_)
      clear hK K
      refine norm_ (a' := ?_) ?_ ?_
      rotate_left
      · show Act.put _ (some 9) _ = _
        simp only [Act.put, List.setIfInBounds_toArray, List.set_cons_zero, List.set_cons_succ, i64_w, i32_w]
        rfl
      refine pure_ (i := 4) (N := some 5) (v := ?_) (a' := ?_) #[true, true, true, true, true, false, false, true, false, false] rfl rfl (by kernel_rfl) (fun _ _ _ h => h) (Or.inl ⟨by rfl, ?_⟩) ?_ ?_
      rotate_left
      · intro w'
        go_simp
        with_reducible rfl
      rotate_left
      · simp only [Act.put, List.setIfInBounds_toArray, List.set_cons_zero, List.set_cons_succ, i64_w, i32_w]
        rfl
      refine pure_ (i := 5) (N := some 10) (v := ?_) (a' := ?_) #[true, true, true, true, true, true, false, true, false, false] rfl rfl (by kernel_rfl) (fun _ _ _ h => h) (Or.inl ⟨by rfl, ?_⟩) ?_ ?_
      rotate_left
      · intro w'
        go_simp
        with_reducible rfl
      rotate_left
      · simp only [Act.put, List.setIfInBounds_toArray, List.set_cons_zero, List.set_cons_succ, i64_w, i32_w]
        rfl
      refine pure_ (i := 6) (N := some 11) (v := ?_) (a' := ?_) #[true, true, true, true, true, true, true, true, false, false] rfl rfl (by kernel_rfl) (fun _ _ _ h => h) (Or.inl ⟨by rfl, ?_⟩) ?_ ?_
      rotate_left
      · intro w'
        go_simp
        with_reducible rfl
      rotate_left
      · simp only [Act.put, List.setIfInBounds_toArray, List.set_cons_zero, List.set_cons_succ, i64_w, i32_w]
        rfl
      exact norm_ (by simp only [putAll, Act.put, List.setIfInBounds_toArray, List.set_cons_zero, List.set_cons_succ]) (hCont (mb, W1.heap.size) _ ⟨HK.out, HA.out, HB.out, HL.out⟩)
  rintro ⟨mb, gb⟩ w5 ⟨hk5, ha5, hb5, hl5⟩
  have HK := Aside0.mk hk5
  have HA := Aside0.mk ha5
  have HB := Aside0.mk hb5
  have HL := Aside0.mk hl5
  have hHeld : w5.cell? ⟨w.heap.size, 0, none⟩ = some (.int .i64 a0) := (blk_cell hk5 0).trans rfl
  clear hk5 ha5 hb5 hl5
  refine norm_ (a' := ?_) ?_ ?_
  rotate_left
  · simp only [putAll, Act.put, List.setIfInBounds_toArray, List.set_cons_zero, List.set_cons_succ]
    rfl
  refine one_ (i := 8) (N := none) #[true, true, true, true, true, true, true, true, true, false] rfl rfl (by kernel_rfl) (by decide) (fun K hK => ?_)
  have k0 : w5.cell? ⟨gb, 0, none⟩ = some (.int .i64 0) := (blk_cell HA.out 0).trans rfl
  have k1 : w5.cell? ⟨gb, 1, none⟩ = some (.int .i64 0) := (blk_cell HA.out 1).trans rfl
  have f0 : w5.frozen? ⟨gb, 0, none⟩ = false := blk_frozen HA.out 0
  have f1 : w5.frozen? ⟨gb, 1, none⟩ = false := blk_frozen HA.out 1
  refine skip_ (w1 := ?_) (by rfl) rfl ?_ ?_
  rotate_left
  · go_simp
    rfl
  clear k0 k1 f0 f1
  have hne : w.heap.size ≠ gb := Nat.ne_of_lt HL.out
  have n0_ := Aside0.mk (blk_far (blk_far HK.out (p := ⟨gb, 0, none⟩) hne (.int .i64 (hasS a0))) (p := ⟨gb, 1, none⟩) hne (.int .i64 (hasB a0)))
  have n1_ := Aside0.mk (blk_put (blk_put HA.out 0 (.int .i64 (hasS a0)) rfl) 1 (.int .i64 (hasB a0)) rfl : _ = some (Obj.cells #[.int .i64 (hasS a0), .int .i64 (hasB a0)] 188 (0, 0)))
  have n2_ := Aside0.mk ((HB.out.setCell (p := ⟨gb, 0, none⟩) (Nat.le_of_lt HL.out) (.int .i64 (hasS a0))).setCell (p := ⟨gb, 1, none⟩) (Nat.le_of_lt HL.out) (.int .i64 (hasB a0)))
  clear HK HA HB hne
  have HK := n0_
  have HA := n1_
  have HB := n2_
  clear n0_ n1_ n2_
  refine hK.out _ _ ((blk_cell HK.out 0).trans rfl) (fun hHeld => ?_)
  clear hK K
  refine pure_ (i := 9) (N := some 4) (v := ?_) (a' := ?_) #[true, true, true, true, true, true, true, true, true, true] rfl rfl (by kernel_rfl) (fun _ _ _ h => h) (Or.inl ⟨by rfl, ?_⟩) ?_ ?_
  rotate_left
  · intro w'
    go_simp
    with_reducible rfl
  rotate_left
  · simp only [Act.put, List.setIfInBounds_toArray, List.set_cons_zero, List.set_cons_succ, i64_w, i32_w]
    rfl
  refine done_ (by kernel_rfl) ?_

  have k2 := (blk_cell HK.out 2).trans rfl
  have k3 := (blk_cell HK.out 3).trans rfl
  have k5 := (blk_cell HK.out 5).trans rfl
  have k6 := (blk_cell HK.out 6).trans rfl
  have j0 := (blk_cell HA.out 0).trans rfl
  have j1 := (blk_cell HA.out 1).trans rfl
  generalize (w5.setCell ⟨gb, 0, none⟩ (.int .i64 (hasS a0))).setCell ⟨gb, 1, none⟩ (.int .i64 (hasB a0)) = W6 at HK HA HB k2 k3 k5 k6 j0 j1 ⊢
  have hm := HMM.out
  have hM := HMX.out
  have hw := HW.out
  clear HMM HMX HW
  rcases hw with ⟨h1, rfl⟩ | ⟨h1, h2, rfl⟩ | ⟨h1, h2, h3, rfl⟩ | ⟨h1, h2, h3, h4, rfl⟩ | ⟨h1, h2, h3, h4, h5, rfl⟩ | ⟨h1, h2, h3, h4, h5, rfl⟩
  all_goals rw [h1]
  all_goals clear h1
  all_goals go_wp2_with fail
  rotate_right
  · refine (HC.out _ HB.out).mono ?_
    rintro e w7 ⟨rfl, rfl⟩
    go_wp2
    go_ret
    exact ⟨rfl, HB.out⟩
  all_goals
    go_ret
    exact ⟨rfl, HB.out⟩
/-- a datagram that may be -/
def packB (a0 a2 a3 : Int) (l5 l6 : List Int) : Bool := decide ((1 ≤ a0 ∧ a0 ≤ 8) ∧ (0 ≤ a2 ∧ a2 ≤ 65535) ∧ (0 ≤ a3 ∧ a3 ≤ 65535) ∧ (l5.length : Int) ≤ (if a0 = 1 then 4 else 0) ∧ (l6.length : Int) ≤ (if 2 ≤ a0 ∧ a0 ≤ 4 then 64 else 0) ∧ ∀ x ∈ l5, 0 ≤ x ∧ x ≤ 4096)
theorem packB_way (a0 a2 a3 : Int) (l5 l6 : List Int) : rightWay a0 (if a3 < a2 then a3 else a2) (if a2 < a3 then a3 else a2) l5.length l6.length (l5.any badS) = packB a0 a2 a3 l5 l6 := by
  have hb : l5.any badS = false ↔ ∀ x ∈ l5, 0 ≤ x ∧ x ≤ 4096 := by
    rw [List.any_eq_false]
    refine forall_congr' fun x => forall_congr' fun _ => ?_
    unfold badS
    rw [Bool.or_eq_true, decide_eq_true_iff, decide_eq_true_iff]
    omega
  have hm : ¬ (if a3 < a2 then a3 else a2) < 0 ↔ (0 ≤ a2 ∧ 0 ≤ a3) := by split <;> omega
  have hM : ¬ 65535 < (if a2 < a3 then a3 else a2) ↔ (a2 ≤ 65535 ∧ a3 ≤ 65535) := by split <;> omega
  rw [Bool.eq_iff_iff]
  unfold rightWay packB hasK hasS hasB
  rw [decide_eq_true_iff, ← hb]
  simp only [Bool.and_eq_true, Bool.not_eq_true', decide_eq_true_iff, decide_eq_false_iff_not, hm, hM, Int.not_lt]
  constructor
  · rintro ⟨⟨⟨⟨⟨h1, h2, h3⟩, h4, h5⟩, h6⟩, h7⟩, h8⟩
    exact ⟨h1, ⟨h2, h4⟩, ⟨h3, h5⟩, h6, h7, h8⟩
  · rintro ⟨h1, ⟨h2, h4⟩, ⟨h3, h5⟩, h6, h7, h8⟩
    exact ⟨⟨⟨⟨⟨h1, h2, h3⟩, h4, h5⟩, h6⟩, h7⟩, h8⟩
/-- a whole number of Go -/
def isInt (x : Int) : Prop := -9223372036854775808 ≤ x ∧ x ≤ 9223372036854775807
instance (x : Int) : Decidable (isInt x) := by unfold isInt; infer_instance
theorem isInt.wf {x : Int} (h : isInt x) : (Lit.int .i64 x).wf = true := by
  obtain ⟨h0, h1⟩ := h
  simp [Lit.wf, IntKind.min, IntKind.max, IntKind.bits, IntKind.signed]
  omega
/-- What pack.right computes. -/
def pack_right.f (a0 a1 a2 a3 a4 : Int) (l5 l6 : List Int) : Option Bool := if isInt a0 then some (packB a0 a2 a3 l5 l6) else none
theorem pack_right.calls (a0 a1 a2 a3 a4 : Int) (A5 : Option Addr) (c5 : Nat) (l5 : List Int) (A6 : Option Addr) (c6 : Nat) (l6 : List Int) (r : Bool) (w : World) (hr5 : Kd.C (Kd.int .i64) w A5 l5.length l5) (hc5 : l5.length ≤ c5) (hr6 : Kd.C (Kd.int .u8) w A6 l6.length l6) (hc6 : l6.length ≤ c6) (h : pack_right.f a0 a1 a2 a3 a4 l5 l6 = some r) :
    Calls Try.prog 125 #[.agg #[.int .i64 a0, .int .u64 a1, .int .i64 a2, .int .i64 a3, .int .u32 a4, .slice A5 l5.length c5, .slice A6 l6.length c6]] w fun e w' => e = .returned (.bool r) ∧ Below w.heap.size w w' := by
  unfold pack_right.f at h
  by_cases hi : isInt a0
  · rw [if_pos hi] at h
    exact right_any a0 a1 a2 a3 a4 A5 c5 l5 A6 c6 l6 w hi.wf _ _ rfl rfl r hr5 ((packB_way a0 a2 a3 l5 l6).trans (Option.some.inj h))
  · rw [if_neg hi] at h; cases h
end Go.Proofs.Ytliohoalackhiaa.I
