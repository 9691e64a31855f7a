/- token.reader.get cuts a number off the bytes that are left; token.Decode reads a token out of bytes, and holds it against its own encoding: for every slice of bytes, in whatever memory. -/
import Derived.Lib.LazyBuf
import Derived.OpenShut
import Derived.Deep.DeepMust
import Derived.Test.YtliohoalackhiaaPTgGet
import Derived.Test.YtliohoalackhiaaPTgClone
import Derived.Test.YtliohoalackhiaaPTx14
namespace Go.Proofs.Ytliohoalackhiaa.T
open Go.RowKit Go.Proofs.YtliohoalackhiaaW.PrintWords Go.Proofs.YtliohoalackhiaaW.PrintLast Go.Proofs.YtliohoalackhiaaW.PrintMore
set_option linter.unusedVariables false
set_option linter.unusedSimpArgs false
def getN (l : List Int) : Int := getAll (backs (l.take 8) (l.take 8).length)
theorem getAll_nonneg (pre : List (Int × Int)) : 0 ≤ getAll pre := by
  rcases List.eq_nil_or_concat pre with rfl | ⟨p, x, rfl⟩
  · exact Int.le_refl 0
  · rw [List.concat_eq_append, getAll_snoc]
    exact (bounds_u64 (wf_bits _ _ _ _)).1
def decG (l : List Int) (j : Int) : Int × List Int × Bool := if (l.length : Int) < j then (0, l, true) else (getN (l.take j.toNat), l.drop j.toNat, false)
theorem decG_nonneg (l : List Int) (j : Int) : 0 ≤ (decG l j).1 := by
  unfold decG
  split
  · exact Int.le_refl 0
  · exact getAll_nonneg _
def Rdr (w0 W : World) (g s : Nat) (l : List Int) (b : Bool) : Prop := ∃ A c, W.heap[g]? = some (.cells #[.slice A l.length c, .pointer (some ⟨s, 0, none⟩)] 175 (0, 0)) ∧ W.heap[s]? = some (.cells #[.bool b] 4 (0, 0)) ∧ Kd.C (Kd.int .u8) w0 A l.length l ∧ l.length ≤ c
theorem Rdr.kept {w0 W W' : World} {g s : Nat} {l : List Int} {b : Bool} {S : Nat → Prop} (h : Rdr w0 W g s l b) (hk : Kept W W' S) (hg : ¬ S g) (hs : ¬ S s) : Rdr w0 W' g s l b := by
  obtain ⟨A, c, h1, h2, h3⟩ := h
  exact ⟨A, c, blk_kept h1 hk hg, blk_kept h2 hk hs, h3⟩
set_option maxRecDepth 100000 in
set_option maxHeartbeats 2000000 in
theorem get_any (w0 W : World) (g s : Nat) (l : List Int) (b : Bool) (j : Int) (hj : 0 ≤ j) (h : Rdr w0 W g s l b) (hB : Below w0.heap.size w0 W) (hgs : w0.heap.size ≤ g ∧ w0.heap.size ≤ s) :
    Calls Try.prog 135 #[.pointer (some ⟨g, 0, none⟩), .int .i64 j] W fun e w' => e = .returned (.int .u64 (decG l j).1) ∧ Rdr w0 w' g s (decG l j).2.1 (b || (decG l j).2.2) ∧ Kept W w' (fun k => k = g ∨ k = s) ∧ Below w0.heap.size w0 w' := by
  obtain ⟨A, c, h1, h2, hC, hc⟩ := h
  have H1 := Aside0.mk h1
  have H2 := Aside0.mk h2
  have HB := Aside0.mk hB
  have HC := Aside0.mk hC
  have HL := Aside0.mk hc
  have hne : g ≠ s := blk_ne h1 h2 (by decide)
  have c0 : W.cell? ⟨g, 0, none⟩ = some (.slice A l.length c) := (blk_cell h1 0).trans rfl
  have c1 : W.cell? ⟨g, 1, none⟩ = some (.pointer (some ⟨s, 0, none⟩)) := (blk_cell h1 1).trans rfl
  have c2 : W.cell? ⟨s, 0, none⟩ = some (.bool b) := (blk_cell h2 0).trans rfl
  have f2 : W.frozen? ⟨s, 0, none⟩ = false := blk_frozen h2 0
  clear h1 h2 hB hC hc
  by_cases hlt : (l.length : Int) < j
  · have hd : decG l j = (0, l, true) := if_pos hlt
    have hlt' : decide ((l.length : Int) < j) = true := decide_eq_true hlt
    rw [hd]
    clear hd hlt
    go_enter Try.func135, Try.ntmps135
    go_wp2
    go_ret
    refine ⟨rfl, ⟨A, c, blk_far H1.out (p := ⟨s, 0, none⟩) hne _, ?_, HC.out, HL.out⟩, (Kept.refl _ _).setCell (p := ⟨s, 0, none⟩) (.inl (.inr rfl)) _, HB.out.setCell (p := ⟨s, 0, none⟩) hgs.2 _⟩
    rw [Bool.or_true]
    exact blk_put H2.out 0 (.bool true) rfl
  · have hd : decG l j = (getN (l.take j.toNat), l.drop j.toNat, false) := if_neg hlt
    have hlt' : decide ((l.length : Int) < j) = false := decide_eq_false hlt
    have hle : j ≤ (l.length : Int) := by omega
    rw [hd]
    obtain ⟨i0, hi, hz0, hz1, hz2⟩ := info_parts info5
    obtain ⟨hcut, hA, hC1⟩ := print_take_of (P := Try.prog) (Value.int .u8) 0 22 5 .i64 Try.underlying22 hi hz1 A c l j hj hle HL.out
    obtain ⟨A', hcut2, hA2, hC2⟩ := print_drop_of (P := Try.prog) (Value.int .u8) 0 22 5 .i64 Try.underlying22 hi hz1 A c l j hj hle HL.out
    have HG := fun W' h1 h2 => word_Get.calls A c (l.take j.toNat) (getN (l.take j.toNat)) W' h1 h2 rfl
    have HD := Aside0.mk (show Kd.C (Kd.int .u8) w0 A' (l.drop j.toNat).length (l.drop j.toNat) from Kd.C_of_reads (hA2 w0 (Kd.reads_of_C (d := (0 : Int)) HC.out)))
    have HL2 := Aside0.mk hC2
    have HL1 := Aside0.mk hC1
    have HT := Aside0.mk (show Kd.C (Kd.int .u8) w0 A (l.take j.toNat).length (l.take j.toNat) from Kd.C_of_reads (hA w0 (Kd.reads_of_C (d := (0 : Int)) HC.out)))
    have HN := Aside0.mk hne
    clear hC1 hA hA2 hC2 hlt hle hz0 hz1 hz2 c1 c2 f2 hne hd
    generalize l.take j.toNat = tk at hcut HG HT HL1 ⊢
    generalize l.drop j.toNat = dp at hcut2 HD HL2 ⊢
    go_enter Try.func135, Try.ntmps135
    go_wp2_with (go_at_call 129; (with_reducible refine (HG _ ?s1 ?s2).mono ?_); (case s1 => exact Kd.C_below HT.out HB.out); (case s2 => exact HL1.out); rintro e w1 ⟨rfl, hb⟩; have d0 : w1.cell? ⟨g, 0, none⟩ = some (.slice A l.length c) := (blk_cell (blk_below H1.out hb) 0).trans rfl; have e0 : w1.frozen? ⟨g, 0, none⟩ = false := blk_frozen (blk_below H1.out hb) 0; have HB1 := Aside0.mk hb; clear hb)
    go_ret
    refine ⟨rfl, ⟨A', c - j.toNat, blk_put (blk_below H1.out HB1.out) 0 _ rfl, ?_, HD.out, ?_⟩, ?_, (below_step HB.out HB1.out).setCell (p := ⟨g, 0, none⟩) hgs.1 _⟩
    · rw [Bool.or_false]; exact blk_far (blk_below H2.out HB1.out) (p := ⟨g, 0, none⟩) (Ne.symm HN.out) _
    · exact HL2.out
    · exact ((Kept.refl _ _).below HB1.out).setCell (p := ⟨g, 0, none⟩) (.inl (.inl rfl)) _
theorem get_at (w0 : World) (g s : Nat) (l : List Int) (b : Bool) (j v : Int) (l' : List Int) (b' : Bool) (hd : decG l j = (v, l', b')) (hj : 0 ≤ j) (W : World) (h : Rdr w0 W g s l b) (hB : Below w0.heap.size w0 W) (hgs : w0.heap.size ≤ g ∧ w0.heap.size ≤ s) :
    Calls Try.prog 135 #[.pointer (some ⟨g, 0, none⟩), .int .i64 j] W fun e w' => e = .returned (.int .u64 v) ∧ Rdr w0 w' g s l' (b || b') ∧ Kept W w' (fun k => k = g ∨ k = s) ∧ Below w0.heap.size w0 w' := by
  have := get_any w0 W g s l b j hj h hB hgs
  rw [hd] at this
  exact this
def decL : Nat → List Int → List Int → Bool → List Int × List Int × Bool
  | 0, l, xs, b => (xs, l, b)
  | n + 1, l, xs, b => decL n (decG l 2).2.1 (xs ++ [wrap64 (decG l 2).1]) (b || (decG l 2).2.2)
def decP (l : List Int) : Int × Int × List Int × List Int × Bool :=
  let d1 := decG l 8
  let d2 := decG d1.2.1 4
  let d3 := decG d2.2.1 1
  let r := decL d3.1.toNat d3.2.1 [] ((d1.2.2 || d2.2.2) || d3.2.2)
  (d1.1, IntKind.u32.wrap d2.1, r.1, r.2.1, r.2.2)
def decM (l : List Int) : Int := (decG (decG (decG l 8).2.1 4).2.1 1).1
def token_Decode.f (k : Nat) (l0 : List Int) : Option (Int × List Int × Int × List Int × Int) :=
  if (l0.length : Int) < 17 then some (0, [], 0, [], 10)
  else (crc_Right.f k l0).bind fun ok => if ok = true then (if decM (l0.take (l0.length - 4)) ≤ 255 then
    ((bytes_Clone.f (decP (l0.take (l0.length - 4))).2.2.2.1).bind fun kn => ((token_Encode.f k (decP (l0.take (l0.length - 4))).1 (decP (l0.take (l0.length - 4))).2.2.1 (decP (l0.take (l0.length - 4))).2.1 kn).bind fun ce =>
      (bytes_Equal.f l0 ce.1).bind fun q => if (decP (l0.take (l0.length - 4))).2.2.2.2 = true then some (0, [], 0, [], 11) else if ce.2 = 0 then (if q = true then some ((decP (l0.take (l0.length - 4))).1, (decP (l0.take (l0.length - 4))).2.2.1, (decP (l0.take (l0.length - 4))).2.1, kn, 0) else some (0, [], 0, [], 11)) else some (0, [], 0, [], 11))) else none)
  else some (0, [], 0, [], 12)
set_option maxRecDepth 100000 in
set_option maxHeartbeats 2000000 in
theorem decode_short (A0 : Option Addr) (c0 : Nat) (l0 : List Int) (w : World) (h17 : (l0.length : Int) < 17) :
    Calls Try.prog 94 #[.slice A0 l0.length c0] w fun e w' => e = .returned (.tuple #[.agg #[.int .u64 0, .slice none 0 0, .int .u32 0, .slice none 0 0], .int .u16 10]) ∧ Below w.heap.size w w' := by
  have h1 : decide ((l0.length : Int) < 17) = true := decide_eq_true h17
  clear h17
  go_enter Try.func94, Try.ntmps94
  go_wp2
  exact bodyPost_ret (v := .tuple #[.agg #[.int .u64 0, .slice none 0 0, .int .u32 0, .slice none 0 0], .int .u16 10]) (by simp [results, Try.results94, go_sem]) rfl ⟨rfl, (Below.refl _ _).alloc (Nat.le_refl _) _⟩
set_option maxRecDepth 100000 in
set_option maxHeartbeats 2000000 in
theorem decode_sum (k : Nat) (A0 : Option Addr) (c0 : Nat) (l0 : List Int) (w : World) (h17 : ¬ (l0.length : Int) < 17) (hr0 : Kd.C (Kd.int .u8) w A0 l0.length l0) (hc0 : l0.length ≤ c0) (h : crc_Right.f k l0 = some false) :
    Calls Try.prog 94 #[.slice A0 l0.length c0] w fun e w' => e = .returned (.tuple #[.agg #[.int .u64 0, .slice none 0 0, .int .u32 0, .slice none 0 0], .int .u16 12]) ∧ Below w.heap.size w w' := by
  have h1 : decide ((l0.length : Int) < 17) = false := decide_eq_false h17
  have HC := fun W h1 => crc_Right.calls k A0 c0 l0 false W h1 hc0 h
  have HR := Aside0.mk hr0
  clear h17 h hr0
  go_enter Try.func94, Try.ntmps94
  go_wp2_with fail
  refine (HC _ (Kd.C_alloc HR.out _)).mono ?_
  rintro e w1 ⟨rfl, hb⟩
  have hbk := blk_below (blk_new w (.cells #[.int .u64 0, .slice none 0 0, .int .u32 0, .slice none 0 0] 66)) hb
  have HB := Aside0.mk (below_step (below_alloc (Below.refl w.heap.size w) _) hb)
  have HK := Aside0.mk hbk
  have k0 : w1.cell? ⟨w.heap.size, 0, none⟩ = some (.int .u64 0) := (blk_cell hbk 0).trans rfl
  have k1 : w1.cell? ⟨w.heap.size, 1, none⟩ = some (.slice none 0 0) := (blk_cell hbk 1).trans rfl
  have k2 : w1.cell? ⟨w.heap.size, 2, none⟩ = some (.int .u32 0) := (blk_cell hbk 2).trans rfl
  have k3 : w1.cell? ⟨w.heap.size, 3, none⟩ = some (.slice none 0 0) := (blk_cell hbk 3).trans rfl
  have f0 : w1.frozen? ⟨w.heap.size, 0, none⟩ = false := blk_frozen hbk 0
  have f1 : w1.frozen? ⟨w.heap.size, 1, none⟩ = false := blk_frozen hbk 1
  have f2 : w1.frozen? ⟨w.heap.size, 2, none⟩ = false := blk_frozen hbk 2
  have f3 : w1.frozen? ⟨w.heap.size, 3, none⟩ = false := blk_frozen hbk 3
  clear hb hbk
  go_wp2
  exact bodyPost_ret (v := .tuple #[.agg #[.int .u64 0, .slice none 0 0, .int .u32 0, .slice none 0 0], .int .u16 12]) (by simp [results, Try.results94, go_sem, k0, k1, k2, k3]) rfl ⟨rfl, by (repeat (first | exact HB.out | refine below_set ?_ (Nat.le_refl _) | (refine Below.setCell ?_ (Nat.le_refl _) _)))⟩
structure DecI (w W : World) (g s T : Nat) (l : List Int) (b : Bool) (x : Int) (u : Value) (y : Int) (kn : Value) : Prop where
  rd : Rdr w W g s l b
  tk : W.heap[T]? = some (.cells #[.int .u64 x, u, .int .u32 y, kn] 66 (0, 0))
  rs : W.heap[w.heap.size]? = some (.cells #[.int .u64 0, .slice none 0 0, .int .u32 0, .slice none 0 0] 66 (0, 0))
  be : Below w.heap.size w W
  gs : w.heap.size < g ∧ w.heap.size < s ∧ w.heap.size < T ∧ T ≠ g ∧ T ≠ s
theorem DecI.gs2 {w W : World} {g s T : Nat} {l : List Int} {b : Bool} {x : Int} {u : Value} {y : Int} {kn : Value} (h : DecI w W g s T l b x u y kn) : w.heap.size ≤ g ∧ w.heap.size ≤ s := by have := h.gs; omega
theorem DecI.got {w W W' : World} {g s T : Nat} {l l' : List Int} {b b' : Bool} {x : Int} {u : Value} {y : Int} {kn : Value} (h : DecI w W g s T l b x u y kn) (hR : Rdr w W' g s l' b') (hK : Kept W W' (fun k => k = g ∨ k = s)) (hW : Below w.heap.size w W') : DecI w W' g s T l' b' x u y kn :=
  ⟨hR, blk_kept h.tk hK (by have := h.gs; omega), blk_kept h.rs hK (by have := h.gs; omega), hW, h.gs⟩
theorem DecI.below {w W W' : World} {g s T : Nat} {l : List Int} {b : Bool} {x : Int} {u : Value} {y : Int} {kn : Value} (h : DecI w W g s T l b x u y kn) (hb : Below W.heap.size W W') : DecI w W' g s T l b x u y kn := h.got (h.rd.kept (Kept.of_below hb (fun _ => False)) (fun h => h) (fun h => h)) (Kept.of_below hb _) (below_step h.be hb)
theorem DecI.set {w W : World} {g s T : Nat} {l : List Int} {b : Bool} {x : Int} {u : Value} {y : Int} {kn : Value} (h : DecI w W g s T l b x u y kn) (i : Nat) (v : Value) (x' : Int) (u' : Value) (y' : Int) (kn' : Value)
    (e : (#[.int .u64 x, u, .int .u32 y, kn] : Array Value).setIfInBounds i v = #[.int .u64 x', u', .int .u32 y', kn']) : DecI w (W.setCell ⟨T, i, none⟩ v) g s T l b x' u' y' kn' := by
  obtain ⟨A, c, h1, h2, h3⟩ := h.rd
  obtain ⟨g1, g2, g3, g4, g5⟩ := h.gs
  exact ⟨⟨A, c, blk_far h1 (p := ⟨T, i, none⟩) (Ne.symm g4) v, blk_far h2 (p := ⟨T, i, none⟩) (Ne.symm g5) v, h3⟩, blk_put h.tk i v e, blk_far h.rs (p := ⟨T, i, none⟩) (by show _ ≠ T; omega) v, h.be.setCell (p := ⟨T, i, none⟩) (by show w.heap.size ≤ T; omega) v, h.gs⟩
theorem DecI.app {w W W' : World} {g s T : Nat} {l : List Int} {b : Bool} {x : Int} {u : Value} {y : Int} {kn : Value} {base : Nat} {ok : Nat → Prop} {u' : Value} {xs : List Int} (h : DecI w W g s T l b x u y kn) (ho : Kd.R (Kd.int .i64) 3 W base ok u' xs)
    (hg : W.grownBy W' u'.ownBlock) (hb : Below w.heap.size w W') : DecI w W' g s T l b x u y kn := by
  obtain ⟨A, c, h1, h2, h3⟩ := h.rd
  exact ⟨⟨A, c, blk_grown h1 hg (Kd.R_ne ho h1 (by decide)), blk_grown h2 hg (Kd.R_ne ho h2 (by decide)), h3⟩, blk_grown h.tk hg (Kd.R_ne ho h.tk (by decide)), blk_grown h.rs hg (Kd.R_ne ho h.rs (by decide)), hb, h.gs⟩
theorem DecI.drew {w W : World} {g s T : Nat} {l : List Int} {b : Bool} {x : Int} {u : Value} {y : Int} {kn : Value} (h : DecI w W g s T l b x u y kn) : DecI w W.drew g s T l b x u y kn := ⟨h.rd, h.tk, h.rs, below_drew1 h.be, h.gs⟩
theorem DecI.cells {w W : World} {g s T : Nat} {l : List Int} {b : Bool} {x : Int} {u : Value} {y : Int} {kn : Value} (h : DecI w W g s T l b x u y kn) :
    W.cell? ⟨T, 0, none⟩ = some (.int .u64 x) ∧ W.cell? ⟨T, 1, none⟩ = some u ∧ W.cell? ⟨T, 2, none⟩ = some (.int .u32 y) ∧ W.cell? ⟨T, 3, none⟩ = some kn ∧
    W.frozen? ⟨T, 0, none⟩ = false ∧ W.frozen? ⟨T, 1, none⟩ = false ∧ W.frozen? ⟨T, 2, none⟩ = false ∧ W.frozen? ⟨T, 3, none⟩ = false :=
  ⟨(blk_cell h.tk 0).trans rfl, (blk_cell h.tk 1).trans rfl, (blk_cell h.tk 2).trans rfl, (blk_cell h.tk 3).trans rfl, blk_frozen h.tk 0, blk_frozen h.tk 1, blk_frozen h.tk 2, blk_frozen h.tk 3⟩
set_option maxRecDepth 100000 in
set_option maxHeartbeats 4000000 in
theorem decode_main (k : Nat) (A0 : Option Addr) (c0 : Nat) (l0 : List Int) (w : World) (h17 : ¬ (l0.length : Int) < 17) (hr0 : Kd.C (Kd.int .u8) w A0 l0.length l0) (hc0 : l0.length ≤ c0) (h : crc_Right.f k l0 = some true) (hM : decM (l0.take (l0.length - 4)) ≤ 255)
    (x y : Int) (xs0 l1 kn c : List Int) (sh q : Bool) (e2 : Int) (hP : decP (l0.take (l0.length - 4)) = (x, y, xs0, l1, sh)) (hkn : bytes_Clone.f l1 = some kn) (hce : token_Encode.f k x xs0 y kn = some (c, e2)) (hq : bytes_Equal.f l0 c = some q)
    (r1 : Int) (r2 : List Int) (r3 : Int) (r4 : List Int) (r5 : Int) (hres : (if sh = true then some (0, [], 0, [], 11) else if e2 = 0 then (if q = true then some (x, xs0, y, kn, 0) else some (0, [], 0, [], 11)) else some (0, [], 0, [], 11)) = some (r1, r2, r3, r4, r5)) :
    Calls Try.prog 94 #[.slice A0 l0.length c0] w fun e w' => ∃ v1_ v3_ : Value, e = .returned (.tuple #[.agg #[.int .u64 r1, v1_, .int .u32 r3, v3_], .int .u16 r5]) ∧ Kd.R (Kd.int .i64) 3 w' w.heap.size (fun _ => True) v1_ r2 ∧ Kd.R (Kd.int .u8) 5 w' w.heap.size (fun _ => True) v3_ r4 ∧ Below w.heap.size w w' := by
  have h1 : decide ((l0.length : Int) < 17) = false := decide_eq_false h17
  have HC := fun W h1 => crc_Right.calls k A0 c0 l0 true W h1 hc0 h
  have HR := Aside0.mk hr0
  obtain ⟨i0, hi, hz0, hz1, hz2⟩ := info_parts info5
  obtain ⟨hcut, hA, hC1⟩ := print_take_of (P := Try.prog) (Value.int .u8) 0 22 5 .i64 Try.underlying22 hi hz1 A0 c0 l0 ((l0.length : Int) - 4) (by omega) (by omega) hc0
  have HT := Aside0.mk (show Kd.C (Kd.int .u8) w A0 (l0.take ((l0.length : Int) - 4).toNat).length (l0.take ((l0.length : Int) - 4).toNat) from Kd.C_of_reads (hA w (Kd.reads_of_C (d := (0 : Int)) hr0)))
  have HL := Aside0.mk hC1
  have e4 : ((l0.length : Int) - 4).toNat = l0.length - 4 := by omega
  rw [e4] at hcut HT HL
  obtain ⟨body, hbody⟩ : ∃ b, l0.take (l0.length - 4) = b := ⟨_, rfl⟩
  rw [hbody] at hcut HT HL hM hP
  have HBD := Aside0.mk hbody
  have H17 := Aside0.mk h17
  have hmx : (l0.length : Int) ≤ 9223372036854775807 := by have := (Kd.reads_of_C (d := (0 : Int)) hr0).2.1; unfold maxLen at this; omega
  obtain ⟨⟨v1, b1, s1⟩, hd1⟩ : ∃ d, decG body 8 = d := ⟨_, rfl⟩
  obtain ⟨⟨v2, b2, s2⟩, hd2⟩ : ∃ d, decG b1 4 = d := ⟨_, rfl⟩
  obtain ⟨⟨v3, b3, s3⟩, hd3⟩ : ∃ d, decG b2 1 = d := ⟨_, rfl⟩
  clear h17 h hr0 hbody e4 hA hC1 hz0 hz1 hz2 hi
  go_enter Try.func94, Try.ntmps94
  go_wp2_with fail
  refine (HC _ (Kd.C_alloc HR.out _)).mono ?_
  rintro e w1 ⟨rfl, hb⟩
  have HK := Aside0.mk (blk_below (blk_new w (.cells #[.int .u64 0, .slice none 0 0, .int .u32 0, .slice none 0 0] 66)) hb)
  have HB := Aside0.mk (below_step (below_alloc (Below.refl w.heap.size w) _) hb)
  clear hb HC
  go_wp2_with fail
  have I1 : DecI w (((w1.alloc (.cells #[.bool false] 4)).alloc (.cells #[.slice A0 body.length c0, .pointer (some ⟨w1.heap.size, 0, none⟩)] 175)).alloc (.cells #[.int .u64 0, .slice none 0 0, .int .u32 0, .slice none 0 0] 66))
      (w1.heap.size + 1) w1.heap.size (w1.heap.size + 1 + 1) body false 0 (.slice none 0 0) 0 (.slice none 0 0) := by
    have hlt := blk_lt HK.out
    have n1 := blk_new (w1.alloc (.cells #[.bool false] 4)) (.cells #[.slice A0 body.length c0, .pointer (some ⟨w1.heap.size, 0, none⟩)] 175)
    have n2 := blk_new ((w1.alloc (.cells #[.bool false] 4)).alloc (.cells #[.slice A0 body.length c0, .pointer (some ⟨w1.heap.size, 0, none⟩)] 175)) (.cells #[.int .u64 0, .slice none 0 0, .int .u32 0, .slice none 0 0] 66)
    simp only [World.size_alloc] at n1 n2
    exact ⟨⟨A0, c0, blk_alloc n1 _, blk_alloc (blk_alloc (blk_new _ _) _) _, HT.out, HL.out⟩, n2, blk_alloc (blk_alloc (blk_alloc HK.out _) _) _, below_alloc (below_alloc (below_alloc HB.out _) _) _, by omega⟩
  generalize w1.heap.size + 1 = g at I1 ⊢
  generalize w1.heap.size = s at I1 ⊢
  generalize hT0 : g + 1 = T at I1 ⊢
  have HI1 := Aside0.mk I1
  clear I1 hT0 HK HB
  refine (get_at w g s body false 8 v1 b1 s1 hd1 (by omega) _ HI1.out.rd HI1.out.be HI1.out.gs2).mono ?_
  rintro e w2 ⟨rfl, hR, hK, hW⟩
  have HI2 := Aside0.mk (HI1.out.got hR hK hW)
  clear HI1 hR hK hW
  go_wp2_with fail
  refine (get_at w g s b1 (false || s1) 4 v2 b2 s2 hd2 (by omega) _ HI2.out.rd HI2.out.be HI2.out.gs2).mono ?_
  rintro e w3 ⟨rfl, hR, hK, hW⟩
  have HI3 := Aside0.mk (HI2.out.got hR hK hW)
  clear HI2 hR hK hW
  obtain ⟨k0, k1, k2, k3, f0, f1, f2, f3⟩ := HI3.out.cells
  go_wp2_with fail
  have HI4 := Aside0.mk ((HI3.out.set 0 (.int .u64 v1) _ _ _ _ rfl).set 2 (.int .u32 (IntKind.u32.wrap v2)) _ _ _ _ rfl)
  clear HI3 k0 k1 k2 k3 f0 f1 f2 f3
  refine (get_at w g s b2 ((false || s1) || s2) 1 v3 b3 s3 hd3 (by omega) _ HI4.out.rd HI4.out.be HI4.out.gs2).mono ?_
  rintro e w4 ⟨rfl, hR, hK, hW⟩
  have HI5 := Aside0.mk (HI4.out.got hR hK hW)
  clear HI4 hR hK hW
  have hv0 : 0 ≤ v3 := by have := decG_nonneg b2 1; rw [hd3] at this; exact this
  have hv1 : v3 ≤ 255 := by unfold decM at hM; rw [hd1] at hM; simp only [hd2, hd3] at hM; exact hM
  obtain ⟨M, rfl⟩ : ∃ M : Nat, v3 = (M : Int) := ⟨v3.toNat, by omega⟩
  unfold decP at hP
  simp only [hd1, hd2, hd3, Int.toNat_natCast, Prod.mk.injEq] at hP
  obtain ⟨rfl, hy, hP1, hP2, hP3⟩ := hP
  rw [hy] at HI5
  obtain ⟨R, hR⟩ : ∃ R, R = ((xs0, l1, sh) : List Int × List Int × Bool) := ⟨_, rfl⟩
  have HRR := Aside0.mk (show decL M b3 [] (((false || s1) || s2) || s3) = R by rw [hR, ← hP1, ← hP2, ← hP3]; simp only [Bool.false_or])
  have HRe := Aside0.mk hR
  have HKN := Aside0.mk hkn
  have HCE := Aside0.mk hce
  have HQ := Aside0.mk hq
  have HRES := Aside0.mk hres
  clear hR hd1 hd2 hd3 hM hy hP1 hP2 hP3 hkn hce hq hres
  go_wp2_with fail
  go_loopg [38] M (fun kq v38 w' => ∃ (i : Int) (xs : List Int) (u : Value) (l : List Int) (b : Bool), v38 = .int .u64 i ∧ Aside0 (0 ≤ i ∧ i + kq = M ∧ xs.length ≤ i) ∧ Aside0 (decL kq l xs b = R) ∧ Aside0 (Kd.R (Kd.int .i64) 3 w' w.heap.size (fun _ => True) u xs) ∧ Aside0 (DecI w w' g s T l b v1 u y (.slice none 0 0)))
  case atStart => exact ⟨0, [], .slice none 0 0, b3, _, rfl, ⟨by omega, by omega, by simp⟩, HRR, ⟨Kd.R_nil _ _ _ _ _⟩, HI5⟩
  case round =>
    clear HRR HI5
    obtain ⟨i, xs, u, l, b, rfl, Hi, HD0, HO, HI⟩ := hrel
    obtain ⟨hi0, hi1, hi2⟩ := Hi.out
    cases gk with
    | zero =>
      obtain rfl : i = (M : Int) := by omega
      obtain ⟨Al, cl, hbg, hbs, hCl, hcl⟩ := HI.out.rd
      have HCl := Aside0.mk hCl
      have HBs := Aside0.mk hbs
      have HHl := Aside0.mk hcl
      have kg : wr.cell? ⟨g, 0, none⟩ = some (.slice Al l.length cl) := (blk_cell hbg 0).trans rfl
      clear hbg hbs hCl hcl Hi hi0 hi1 hi2
      have hRl : (xs, l, b) = R := HD0.out
      rw [HRe.out] at hRl
      obtain ⟨rfl, rfl, rfl⟩ : xs = xs0 ∧ l = l1 ∧ b = sh := by simpa using hRl
      clear hRl HD0
      obtain ⟨Au, cu, eu⟩ := Kd.R_slice HO.out
      subst eu
      go_wp2_with fail
      refine (bytes_Clone.calls Al cl l kn wr (Kd.C_below HCl.out HI.out.be) HHl.out HKN.out).mono ?_
      rintro e w5 ⟨v5, rfl, hv, hb⟩
      obtain ⟨Ak, ck, ek⟩ := Kd.R_slice hv
      subst ek
      have HV := Aside0.mk (Kd.R_lower hv (below_size HI.out.be))
      have n_ := Aside0.mk (HI.out.below hb)
      have o_ := Aside0.mk (Kd.R_below HO.out hb)
      clear HI HO hv hb kg
      have HI := n_
      have HO := o_
      clear n_ o_
      obtain ⟨k0, k1, k2, k3, f0, f1, f2, f3⟩ := HI.out.cells
      clear f0 f1 f2
      go_wp2_with fail
      clear k0 k1 k2 k3 f3
      have o_ := Aside0.mk (Kd.R_mono (Kd.R_far (p := ⟨T, 3, none⟩) (Kd.R_types HO.out HI.out.tk (by decide)) (fun _ hk => hk.2) (.slice Ak kn.length ck)) (fun _ _ => trivial) : Kd.R (Kd.int .i64) 3 (w5.setCell ⟨T, 3, none⟩ (.slice Ak kn.length ck)) w.heap.size (fun _ => True) (.slice Au xs.length cu) xs)
      have v_ := Aside0.mk (Kd.R_mono (Kd.R_far (p := ⟨T, 3, none⟩) (Kd.R_types HV.out HI.out.tk (by decide)) (fun _ hk => hk.2) (.slice Ak kn.length ck)) (fun _ _ => trivial) : Kd.R (Kd.int .u8) 5 (w5.setCell ⟨T, 3, none⟩ (.slice Ak kn.length ck)) w.heap.size (fun _ => True) (.slice Ak kn.length ck) kn)
      have n_ := Aside0.mk (HI.out.set 3 (.slice Ak kn.length ck) _ _ _ _ rfl)
      clear HO HV HI
      have HO := o_
      have HV := v_
      have HI := n_
      clear o_ v_ n_
      generalize w5.setCell ⟨T, 3, none⟩ (.slice Ak kn.length ck) = w6 at HO HV HI ⊢
      refine (token_Encode.calls k v1 Au cu xs y Ak ck kn c e2 w6 (Kd.R_reads' HO.out).2.2 (Kd.R_reads' HO.out).2.1 (Kd.R_reads' HV.out).2.2 (Kd.R_reads' HV.out).2.1 HCE.out).mono ?_
      rintro e w7 ⟨v7, rfl, hv, hb⟩
      obtain ⟨Ac, cc, ec⟩ := Kd.R_slice hv
      subst ec
      have HX := Aside0.mk hv
      have n_ := Aside0.mk (HI.out.below hb)
      have o_ := Aside0.mk (Kd.R_below HO.out hb)
      have v_ := Aside0.mk (Kd.R_below HV.out hb)
      clear HI HO HV hv hb
      have HI := n_
      have HO := o_
      have HV := v_
      clear n_ o_ v_
      obtain ⟨A', c', hbg, hbs, hCl, hcl⟩ := HI.out.rd
      have ks : w7.cell? ⟨s, 0, none⟩ = some (.bool b) := (blk_cell hbs 0).trans rfl
      obtain ⟨k0, k1, k2, k3, f0, f1, f2, f3⟩ := HI.out.cells
      have hrs := HI.out.rs
      have z0 : w7.cell? ⟨w.heap.size, 0, none⟩ = some (.int .u64 0) := (blk_cell hrs 0).trans rfl
      have z1 : w7.cell? ⟨w.heap.size, 1, none⟩ = some (.slice none 0 0) := (blk_cell hrs 1).trans rfl
      have z2 : w7.cell? ⟨w.heap.size, 2, none⟩ = some (.int .u32 0) := (blk_cell hrs 2).trans rfl
      have z3 : w7.cell? ⟨w.heap.size, 3, none⟩ = some (.slice none 0 0) := (blk_cell hrs 3).trans rfl
      have y0 : w7.frozen? ⟨w.heap.size, 0, none⟩ = false := blk_frozen hrs 0
      have y1 : w7.frozen? ⟨w.heap.size, 1, none⟩ = false := blk_frozen hrs 1
      have y2 : w7.frozen? ⟨w.heap.size, 2, none⟩ = false := blk_frozen hrs 2
      have y3 : w7.frozen? ⟨w.heap.size, 3, none⟩ = false := blk_frozen hrs 3
      clear hbg hbs hCl hcl f0 f1 f2 f3 hrs
      cases b with
      | true =>
        have hr := HRES.out
        rw [if_pos rfl] at hr
        simp only [Option.some.injEq, Prod.mk.injEq] at hr
        obtain ⟨rfl, rfl, rfl, rfl, rfl⟩ := hr
        go_wp2
        exact bodyPost_ret (v := .tuple #[.agg #[.int .u64 0, .slice none 0 0, .int .u32 0, .slice none 0 0], .int .u16 11]) (by simp [results, Try.results94, go_sem, z0, z1, z2, z3]) rfl ⟨_, _, rfl, Kd.R_nil _ _ _ _ _, Kd.R_nil _ _ _ _ _, by (repeat (first | exact HI.out.be | refine below_set ?_ (Nat.le_refl _)))⟩
      | false =>
        have hr := HRES.out
        rw [if_neg (by simp)] at hr
        by_cases he : e2 = 0
        · rw [if_pos he] at hr
          have he1 : ((e2 : Int) != 0) = false := bne_eq_false_iff_eq.mpr he
          have he2 : ((e2 : Int) == 0) = true := beq_iff_eq.mpr he
          clear he
          cases q with
          | false =>
            rw [if_neg (by simp)] at hr
            simp only [Option.some.injEq, Prod.mk.injEq] at hr
            obtain ⟨rfl, rfl, rfl, rfl, rfl⟩ := hr
            go_wp2_with fail
            refine (bytes_Equal.calls A0 c0 l0 Ac cc c false w7 (Kd.C_below HR.out HI.out.be) hc0 (Kd.R_reads' HX.out).2.2 (Kd.R_reads' HX.out).2.1 HQ.out).mono ?_
            rintro e w8 ⟨rfl, hd⟩
            have hb := hd.below
            have HI8 := Aside0.mk (HI.out.below hb)
            have HO8 := Aside0.mk (Kd.R_below HO.out hb)
            have HV8 := Aside0.mk (Kd.R_below HV.out hb)
            clear hd hb z0 z1 z2 z3 y0 y1 y2 y3 k0 k1 k2 k3 HI HO HV ks
            have hrs := HI8.out.rs
            have z0 : w8.cell? ⟨w.heap.size, 0, none⟩ = some (.int .u64 0) := (blk_cell hrs 0).trans rfl
            have z1 : w8.cell? ⟨w.heap.size, 1, none⟩ = some (.slice none 0 0) := (blk_cell hrs 1).trans rfl
            have z2 : w8.cell? ⟨w.heap.size, 2, none⟩ = some (.int .u32 0) := (blk_cell hrs 2).trans rfl
            have z3 : w8.cell? ⟨w.heap.size, 3, none⟩ = some (.slice none 0 0) := (blk_cell hrs 3).trans rfl
            have y0 : w8.frozen? ⟨w.heap.size, 0, none⟩ = false := blk_frozen hrs 0
            have y1 : w8.frozen? ⟨w.heap.size, 1, none⟩ = false := blk_frozen hrs 1
            have y2 : w8.frozen? ⟨w.heap.size, 2, none⟩ = false := blk_frozen hrs 2
            have y3 : w8.frozen? ⟨w.heap.size, 3, none⟩ = false := blk_frozen hrs 3
            have HRS := Aside0.mk hrs
            clear hrs
            obtain ⟨k0, k1, k2, k3, _, _, _, _⟩ := HI8.out.cells
            go_wp2
            exact bodyPost_ret (v := .tuple #[.agg #[.int .u64 0, .slice none 0 0, .int .u32 0, .slice none 0 0], .int .u16 11]) (by simp [results, Try.results94, go_sem, z0, z1, z2, z3]) rfl ⟨_, _, rfl, Kd.R_nil _ _ _ _ _, Kd.R_nil _ _ _ _ _, by (repeat (first | exact HI8.out.be | refine below_set ?_ (Nat.le_refl _)))⟩
          | true =>
            rw [if_pos rfl] at hr
            simp only [Option.some.injEq, Prod.mk.injEq] at hr
            obtain ⟨rfl, rfl, rfl, rfl, rfl⟩ := hr
            go_wp2_with fail
            refine (bytes_Equal.calls A0 c0 l0 Ac cc c true w7 (Kd.C_below HR.out HI.out.be) hc0 (Kd.R_reads' HX.out).2.2 (Kd.R_reads' HX.out).2.1 HQ.out).mono ?_
            rintro e w8 ⟨rfl, hd⟩
            have hb := hd.below
            have HI8 := Aside0.mk (HI.out.below hb)
            have HO8 := Aside0.mk (Kd.R_below HO.out hb)
            have HV8 := Aside0.mk (Kd.R_below HV.out hb)
            clear hd hb z0 z1 z2 z3 y0 y1 y2 y3 k0 k1 k2 k3 HI HO HV ks
            have hrs := HI8.out.rs
            have z0 : w8.cell? ⟨w.heap.size, 0, none⟩ = some (.int .u64 0) := (blk_cell hrs 0).trans rfl
            have z1 : w8.cell? ⟨w.heap.size, 1, none⟩ = some (.slice none 0 0) := (blk_cell hrs 1).trans rfl
            have z2 : w8.cell? ⟨w.heap.size, 2, none⟩ = some (.int .u32 0) := (blk_cell hrs 2).trans rfl
            have z3 : w8.cell? ⟨w.heap.size, 3, none⟩ = some (.slice none 0 0) := (blk_cell hrs 3).trans rfl
            have y0 : w8.frozen? ⟨w.heap.size, 0, none⟩ = false := blk_frozen hrs 0
            have y1 : w8.frozen? ⟨w.heap.size, 1, none⟩ = false := blk_frozen hrs 1
            have y2 : w8.frozen? ⟨w.heap.size, 2, none⟩ = false := blk_frozen hrs 2
            have y3 : w8.frozen? ⟨w.heap.size, 3, none⟩ = false := blk_frozen hrs 3
            have HRS := Aside0.mk hrs
            clear hrs
            obtain ⟨k0, k1, k2, k3, _, _, _, _⟩ := HI8.out.cells
            go_wp2
            have far : ∀ (W : World) (i : Nat) (v : Value), Kd.R (Kd.int .i64) 3 W w.heap.size (fun k_ => k_ ≠ w.heap.size) (.slice Au xs.length cu) xs → Kd.R (Kd.int .i64) 3 (W.setCell ⟨w.heap.size, i, none⟩ v) w.heap.size (fun k_ => k_ ≠ w.heap.size) (.slice Au xs.length cu) xs := fun W i v h => Kd.R_far (p := ⟨w.heap.size, i, none⟩) h (fun _ hk => hk) v
            have far2 : ∀ (W : World) (i : Nat) (v : Value), Kd.R (Kd.int .u8) 5 W w.heap.size (fun k_ => k_ ≠ w.heap.size) (.slice Ak kn.length ck) kn → Kd.R (Kd.int .u8) 5 (W.setCell ⟨w.heap.size, i, none⟩ v) w.heap.size (fun k_ => k_ ≠ w.heap.size) (.slice Ak kn.length ck) kn := fun W i v h => Kd.R_far (p := ⟨w.heap.size, i, none⟩) h (fun _ hk => hk) v
            exact bodyPost_ret (v := .tuple #[.agg #[.int .u64 v1, .slice Au xs.length cu, .int .u32 y, .slice Ak kn.length ck], .int .u16 0]) (by simp [results, Try.results94, go_sem, z0, z1, z2, z3]) rfl ⟨_, _, rfl,
              Kd.R_mono (far _ _ _ (far _ _ _ (far _ _ _ (far _ _ _ (Kd.R_mono (Kd.R_types HO8.out HRS.out (by decide)) (fun _ hk => hk.2)))))) (fun _ _ => trivial),
              Kd.R_mono (far2 _ _ _ (far2 _ _ _ (far2 _ _ _ (far2 _ _ _ (Kd.R_mono (Kd.R_types HV8.out HRS.out (by decide)) (fun _ hk => hk.2)))))) (fun _ _ => trivial),
              by (repeat (first | exact HI8.out.be | refine below_set ?_ (Nat.le_refl _)))⟩
        · rw [if_neg he] at hr
          have he1 : ((e2 : Int) != 0) = true := bne_iff_ne.mpr he
          have he2 : ((e2 : Int) == 0) = false := beq_eq_false_iff_ne.mpr he
          clear he
          simp only [Option.some.injEq, Prod.mk.injEq] at hr
          obtain ⟨rfl, rfl, rfl, rfl, rfl⟩ := hr
          go_wp2
          exact bodyPost_ret (v := .tuple #[.agg #[.int .u64 0, .slice none 0 0, .int .u32 0, .slice none 0 0], .int .u16 11]) (by simp [results, Try.results94, go_sem, z0, z1, z2, z3]) rfl ⟨_, _, rfl, Kd.R_nil _ _ _ _ _, Kd.R_nil _ _ _ _ _, by (repeat (first | exact HI.out.be | refine below_set ?_ (Nat.le_refl _)))⟩
    | succ kk =>
      have hlt : decide (i < (M : Int)) = true := decide_eq_true (by omega)
      obtain ⟨⟨va, la, sa⟩, hd⟩ : ∃ d, decG l 2 = d := ⟨_, rfl⟩
      have HD := Aside0.mk hd
      obtain ⟨ys, hys⟩ : ∃ ys, xs ++ [wrap64 va] = ys := ⟨_, rfl⟩
      have HYL := Aside0.mk (show ys.length = xs.length + 1 by rw [← hys]; simp)
      have HYS := Aside0.mk hys
      have HLX := Aside0.mk (show (xs.length : Int) ≤ 255 by omega)
      have hd0 := HD0.out
      unfold decL at hd0
      rw [hd, hys] at hd0
      clear hys
      have HE := Aside0.mk hd0
      clear hd hd0 HD0
      try go_wp2
      have n_ := Aside0.mk HI.out.drew
      have o_ := Aside0.mk (Kd.R_drew HO.out)
      clear HI HO
      have HI := n_
      have HO := o_
      clear n_ o_
      refine start_ (n := 11) (S := fun w' => w'.cell? ⟨T, 1, none⟩ = some u) (ds := [7, 10]) #[false, false, false, false, false, false, false, false, false, false, false] (by kernel_rfl) rfl rfl (HI.out.cells.2.1) (fun hHeld => ?_)
      refine pure_ (i := 0) (N := some 40) (v := ?_) (a' := ?_) #[true, false, false, false, false, false, false, false, false, false, false] rfl rfl (by kernel_rfl) (fun _ _ _ h => h) (Or.inl ⟨by rfl, ?_⟩) ?_ ?_; rotate_left; (intro w'; go_simp; with_reducible rfl); rotate_left; (simp only [Act.put, List.setIfInBounds_toArray, List.set_cons_zero, List.set_cons_succ, i64_w, i32_w]; rfl)
      refine pure_ (i := 1) (N := some 41) (v := ?_) (a' := ?_) #[true, true, false, false, false, false, false, false, false, false, false] rfl rfl (by kernel_rfl) (fun _ _ _ h => h) (Or.inl ⟨by rfl, ?_⟩) ?_ ?_; rotate_left; (intro w'; go_simp; with_reducible rfl); rotate_left; (simp only [Act.put, List.setIfInBounds_toArray, List.set_cons_zero, List.set_cons_succ, i64_w, i32_w]; rfl)
      refine pure_ (i := 3) (N := some 43) (v := ?_) (a' := ?_) #[true, true, false, true, false, false, false, false, false, false, false] rfl rfl (by kernel_rfl) (fun _ _ _ h => h) (Or.inl ⟨by rfl, ?_⟩) ?_ ?_; rotate_left; (intro w'; go_simp; with_reducible rfl); rotate_left; (simp only [Act.put, List.setIfInBounds_toArray, List.set_cons_zero, List.set_cons_succ, i64_w, i32_w]; rfl)
      refine take_ (i := 2) (N := some 42) (v := ?_) (a' := ?_) #[true, true, true, true, false, false, false, false, false, false, false] rfl rfl (by kernel_rfl) (fun _ _ _ h => h) (Or.inl ⟨by rfl, ?_⟩) hHeld ?_ ?_; rotate_left; (intro w' s0; go_simp; with_reducible rfl); rotate_left; (simp only [Act.put, List.setIfInBounds_toArray, List.set_cons_zero, List.set_cons_succ, i64_w, i32_w]; rfl)
      refine one_ (i := 4) (N := some 44) #[true, true, true, true, true, false, false, false, false, false, false] rfl rfl (by kernel_rfl) (by decide) (fun K hK => ?_)
      refine goes_ Try.func135 (by kernel_rfl) rfl #[.pointer (some ⟨g, 0, none⟩), .int .i64 2] (by rfl) rfl rfl (by first | (simp only [List.map_toArray, List.map_cons, List.map_nil]; done) | (simp only [List.map_toArray, List.map_cons, List.map_nil]; rfl)) ?_
      with_reducible refine (get_at w g s l b 2 va la sa HD.out (by decide) _ HI.out.rd HI.out.be HI.out.gs2).mono ?_
      rintro e w6 ⟨rfl, hR, hK, hW⟩
      refine ⟨_, rfl, ?_⟩
      obtain ⟨_, _, hbg, hbs, _⟩ := HI.out.rd
      have o_ := Aside0.mk (Kd.R_mono (Kd.R_kept (Kd.R_types (Kd.R_types HO.out hbg (by decide)) hbs (by decide)) hK (fun k_ hk hs => hs.elim hk.1.2 hk.2)) (fun _ _ => trivial) : Kd.R (Kd.int .i64) 3 w6 w.heap.size (fun _ => True) u xs)
      have n_ := Aside0.mk (HI.out.got hR hK hW)
      clear HI HO hR hK hW hbg hbs
      have HI := n_
      have HO := o_
      clear n_ o_
      refine hK.out _ _ (HI.out.cells.2.1) (fun hHeld => ?_)
      clear hK K
      refine norm_ (a' := ?_) ?_ ?_
      rotate_left
      · show Act.put _ (some 44) _ = _
        simp only [Act.put, List.setIfInBounds_toArray, List.set_cons_zero, List.set_cons_succ, i64_w, i32_w]
        rfl
      refine pure_ (i := 5) (N := some 45) (v := ?_) (a' := ?_) #[true, true, true, true, true, true, false, false, false, false, false] rfl rfl (by kernel_rfl) (fun _ _ _ h => h) (Or.inl ⟨by rfl, ?_⟩) ?_ ?_; rotate_left; (intro w'; go_simp; with_reducible rfl); rotate_left; (simp only [Act.put, List.setIfInBounds_toArray, List.set_cons_zero, List.set_cons_succ, i64_w, i32_w]; rfl)
      refine one_ (i := 6) (N := some 46) #[true, true, true, true, true, true, true, false, false, false, false] rfl rfl (by kernel_rfl) (by decide) (fun K hK => ?_)
      refine value_ (w1 := ?_) (v := ?_) (by rfl) rfl ?_ ?_
      rotate_left 2
      · go_simp
        constructor
        · rfl
        · rfl
      refine hK.out _ _ ((blk_cell (blk_alloc HI.out.tk _) 1).trans rfl) (fun hHeld => ?_)
      clear hK K
      refine norm_ (a' := ?_) ?_ ?_
      rotate_left
      · show Act.put _ (some 46) _ = _
        simp only [Act.put, List.setIfInBounds_toArray, List.set_cons_zero, List.set_cons_succ, i64_w, i32_w]
        rfl
      refine last_ (i := 7) (N := some 47) #[true, true, true, true, true, true, true, true, false, false, false] rfl rfl (by kernel_rfl) (by decide) (fun K hK => ?_)
      refine Kd.R_append_step (Kd.int .i64) (w0 := w) w.heap.size (by rfl) (.tmp 42) (.tmp 46) 42 3 (.int .i64 0) 8 rfl Try.underlying42 info3 rfl (by decide) (by omega) u xs (wrap64 va) [.int .i64 (wrap64 va)] (fun _ => True) (fun _ => False) rfl rfl ?aP (fun _ hk => hk.elim) ?aF ?aO ?aB ?aS ?aL ?_
      (case aP => exact rfl)
      (case aB => exact HI.out.be)
      (case aF => exact (fun _ _ => trivial))
      (case aO => exact HO.out)
      (case aS => exact (below_size HI.out.be))
      (case aL => have := HLX.out; omega)
      intro v7 w7 ho hb hg hat
      rw [HYS.out] at ho
      have n_ := Aside0.mk (HI.out.app HO.out hg hb)
      have HO2 := Aside0.mk ho
      clear HI HO ho hb hg hat
      have HI := n_
      clear n_
      obtain ⟨Ao, co, eo⟩ := Kd.R_slice HO2.out
      subst eo
      refine hK.out _ _ ?_
      clear hK K
      refine norm_ (a' := ?_) ?_ ?_
      rotate_left
      · show Act.put _ (some 47) _ = _
        simp only [Act.put, List.setIfInBounds_toArray, List.set_cons_zero, List.set_cons_succ, i64_w, i32_w]
        rfl
      refine pure_ (i := 8) (N := some 48) (v := ?_) (a' := ?_) #[true, true, true, true, true, true, true, true, true, false, false] rfl rfl (by kernel_rfl) (fun _ _ _ h => h) (Or.inl ⟨by rfl, ?_⟩) ?_ ?_; rotate_left; (intro w'; go_simp; with_reducible rfl); rotate_left; (simp only [Act.put, List.setIfInBounds_toArray, List.set_cons_zero, List.set_cons_succ, i64_w, i32_w]; rfl)
      refine pure_ (i := 9) (N := some 49) (v := ?_) (a' := ?_) #[true, true, true, true, true, true, true, true, true, true, false] rfl rfl (by kernel_rfl) (fun _ _ _ h => h) (Or.inl ⟨by rfl, ?_⟩) ?_ ?_; rotate_left; (intro w'; go_simp; with_reducible rfl); rotate_left; (simp only [Act.put, List.setIfInBounds_toArray, List.set_cons_zero, List.set_cons_succ, i64_w, i32_w]; rfl)
      refine last_ (i := 10) (N := none) #[true, true, true, true, true, true, true, true, true, true, true] rfl rfl (by kernel_rfl) (by decide) (fun K hK => ?_)
      have k1 := HI.out.cells.2.1
      have f1 := HI.out.cells.2.2.2.2.2.1
      refine skip_ (w1 := ?_) (by rfl) rfl ?_ ?_
      rotate_left
      · go_simp
        rfl
      refine hK.out _ _ ?_
      clear hK K
      refine done_ (by kernel_rfl) ?_

      try go_wp2
      go_roundg kk
      case measure => omega
      case rel =>
        refine ⟨i + 1, ys, .slice Ao ys.length co, la, b || sa, (by first | rfl | (simp; done) | (simp [*]; done)), ⟨by omega, by omega, by have := HYL.out; omega⟩, HE, ⟨Kd.R_mono (Kd.R_far (p := ⟨T, 1, none⟩) (Kd.R_types HO2.out HI.out.tk (by decide)) (fun _ hk => hk.2) _) (fun _ _ => trivial)⟩, ⟨HI.out.set 1 _ _ _ _ _ rfl⟩⟩
theorem token_Decode.calls (k : Nat) (A0 : Option Addr) (c0 : Nat) (l0 : List Int) (r1 : Int) (r2 : List Int) (r3 : Int) (r4 : List Int) (r5 : Int) (w : World) (hr0 : Kd.C (Kd.int .u8) w A0 l0.length l0) (hc0 : l0.length ≤ c0) (h : token_Decode.f k l0 = some (r1, r2, r3, r4, r5)) :
    Calls Try.prog 94 #[.slice A0 l0.length c0] w fun e w' => ∃ v1_ v3_ : Value, e = .returned (.tuple #[.agg #[.int .u64 r1, v1_, .int .u32 r3, v3_], .int .u16 r5]) ∧ Kd.R (Kd.int .i64) 3 w' w.heap.size (fun _ => True) v1_ r2 ∧ Kd.R (Kd.int .u8) 5 w' w.heap.size (fun _ => True) v3_ r4 ∧ Below w.heap.size w w' := by
  unfold token_Decode.f at h
  by_cases h17 : (l0.length : Int) < 17
  · rw [if_pos h17] at h
    simp only [Option.some.injEq, Prod.mk.injEq] at h
    obtain ⟨rfl, rfl, rfl, rfl, rfl⟩ := h
    exact (decode_short A0 c0 l0 w h17).mono fun e w' ⟨he, hb⟩ => ⟨_, _, he, Kd.R_nil _ _ _ _ _, Kd.R_nil _ _ _ _ _, hb⟩
  · rw [if_neg h17] at h
    obtain ⟨ok, hok, h⟩ := Option.bind_eq_some_iff.mp h
    cases ok with
    | false =>
      rw [if_neg (by simp)] at h
      simp only [Option.some.injEq, Prod.mk.injEq] at h
      obtain ⟨rfl, rfl, rfl, rfl, rfl⟩ := h
      exact (decode_sum k A0 c0 l0 w h17 hr0 hc0 hok).mono fun e w' ⟨he, hb⟩ => ⟨_, _, he, Kd.R_nil _ _ _ _ _, Kd.R_nil _ _ _ _ _, hb⟩
    | true =>
      rw [if_pos rfl] at h
      by_cases hM : decM (l0.take (l0.length - 4)) ≤ 255
      · rw [if_pos hM] at h
        obtain ⟨kn, hkn, h⟩ := Option.bind_eq_some_iff.mp h
        obtain ⟨⟨c, e2⟩, hce, h⟩ := Option.bind_eq_some_iff.mp h
        obtain ⟨q, hq, h⟩ := Option.bind_eq_some_iff.mp h
        exact decode_main k A0 c0 l0 w h17 hr0 hc0 hok hM _ _ _ _ kn c _ q e2 rfl hkn hce hq _ _ _ _ _ h
      · rw [if_neg hM] at h; cases h
end Go.Proofs.Ytliohoalackhiaa.T
